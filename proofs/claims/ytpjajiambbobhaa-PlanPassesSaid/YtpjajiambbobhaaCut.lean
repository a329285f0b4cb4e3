/- (*Profile).cut: a step is made to begin at a tick. -/
import Derived.Test.YtpjajiambbobhaaSteps
import Derived.Deep.RegionHeld3
import Derived.Deep.AppendLies
import Derived.Deep.RegionLawGrows
import Derived.Lib.SmallJoins
namespace Go.Proofs.Ytpjajiambbobhaa
open Go.RowKit

theorem info43 : (Try.prog.info? 43).map (fun i => (i.zero, i.size, i.bytes)) = some (some (.agg #[.int .i64 0, .int .i64 0, .int .i64 0, .int .i64 0, .int .i64 0]), 5, 40) := by kernel_rfl

/-- what a call may change: the blocks of S, and new ones -/
structure Mod (S : Nat → Prop) (w w' : World) : Prop where
  os : w'.os = w.os
  tape : w'.tape = w.tape
  output : w'.output = w.output
  size : w.heap.size ≤ w'.heap.size
  block : ∀ k, k < w.heap.size → ¬ S k → w'.heap[k]? = w.heap[k]?

/-- steps cut at a tick, behind the place k -/
def cutAt (l : List St) (k : Nat) (t : Int) : List St := l.take (k + 1) ++ ⟨t, (nth l k).f⟩ :: l.drop (k + 1)

def CutPost (pb sb cap : Nat) (whole : V4) (l : List St) (t : Int) (w : World) (e : Ending) (w' : World) : Prop :=
  ∃ (n k sb' cap' : Nat) (l' : List St), e = .returned (.int .i64 n) ∧ IsPlace l t k ∧ (((nth l k).t = t ∧ l' = l ∧ n = k ∧ sb' = sb ∧ cap' = cap) ∨ ((nth l k).t ≠ t ∧ l' = cutAt l k t ∧ n = k + 1 ∧ w.heap.size ≤ sb')) ∧
    Prof w' pb sb' cap' whole l' ∧ Mod (· = pb) w w'

theorem owns_one (w : World) (B : Nat) (s : St) (hB : B ≤ w.heap.size) : (w.alloc (.cells s.cells.toArray 43)).ownsRow B 43 5 (.slice (some ⟨w.heap.size, 0, none⟩) 1 1) 1 s.cells :=
  ⟨rfl, .inr ⟨w.heap.size, 1, s.cells.toArray, rfl, hB, heap_alloc_new w _, Nat.le_refl _, by decide, rfl, rfl⟩⟩

/-- the cells of a row's end, told off an address -/
theorem Row.tail {w : World} {sb cap : Nat} {l : List St} (h : Row w sb cap l) (n : Nat) (hn : n ≤ l.length) : ∀ (j : Nat) (u : Value), (flat (l.drop n))[j]? = some u → w.cell? ((⟨sb, n * 5, none⟩ : Addr).add j) = some u := by
  intro j u hu
  have hj : j < (flat (l.drop n)).length := (List.getElem?_eq_some_iff.1 hu).1
  rw [flat_length, List.length_drop] at hj
  have e : (⟨sb, n * 5, none⟩ : Addr).add j = ⟨sb, n * 5 + j, none⟩ := by unfold Addr.add; split <;> simp_all
  have hfl : flat l = flat (l.take n) ++ flat (l.drop n) := by rw [← flat_append, List.take_append_drop]
  obtain ⟨cur, hb, hs, ht⟩ := h.blk
  rw [e, blk_cell hb]
  have : (flat l)[n * 5 + j]? = cur[n * 5 + j]? := by
    rw [← ht, List.getElem?_take, if_pos (by omega)]; simp
  rw [← this, hfl, List.getElem?_append_right (by rw [flat_length, List.length_take]; omega), flat_length, List.length_take]
  have e2 : n * 5 + j - min n l.length * 5 = j := by rw [Nat.min_eq_left hn]; omega
  rw [e2]; exact hu
theorem Row.front {w : World} {sb cap : Nat} {l : List St} (h : Row w sb cap l) (n : Nat) (hn : n ≤ l.length) : ∀ (j : Nat) (u : Value), (flat (l.take n))[j]? = some u → w.cell? ((⟨sb, 0, none⟩ : Addr).add j) = some u := by
  intro j u hu
  have hj : j < (flat (l.take n)).length := (List.getElem?_eq_some_iff.1 hu).1
  rw [flat_length, List.length_take] at hj
  have e : (⟨sb, 0, none⟩ : Addr).add j = ⟨sb, j, none⟩ := by unfold Addr.add; split <;> simp_all
  have hfl : flat l = flat (l.take n) ++ flat (l.drop n) := by rw [← flat_append, List.take_append_drop]
  obtain ⟨cur, hb, hs, ht⟩ := h.blk
  rw [e, blk_cell hb]
  have : (flat l)[j]? = cur[j]? := by
    rw [← ht, List.getElem?_take, if_pos (by omega)]; simp
  rw [← this, hfl, List.getElem?_append_left (by rw [flat_length, List.length_take]; omega)]
  exact hu
theorem flat_one (l : List St) : ∀ u ∈ flat l, u.oneCell' = true := by
  intro u hu
  simp only [flat, List.mem_flatMap] at hu
  obtain ⟨s, _, hs⟩ := hu
  simp [St.cells] at hs
  rcases hs with rfl | rfl | rfl | rfl | rfl <;> rfl

/-- append onto a row of the call's own, as one step of a region that draws: whatever is appended -/
theorem step_append_mine {P : Program} {ops : Array Oper} {o : Oper} {a : Act} {w : World} {K : Act → World → Prop} {Q : Exit → Act → World → Prop} {E : Prop} (hgd : o.guard = none) (s x : Operand) (t : TypeId)
    (ho : o.op = .call { callee := .builtin .append, args := #[s, x], argTypes := #[t, t] })
    (base : Nat) (e : TypeId) (i : TypeInfo) (z : Value) (size bytes : Nat) (ht : P.underlying t = some (.slice e)) (hi : P.info? e = some i) (hz : i.zero = some z)
    (hsize : i.size = size) (hby : i.bytes = bytes) (hzs : z.cells.size = size) (hsz : 0 < size)
    (v : Value) (n : Nat) (xs : List Value) (hs : a.eval s = v) (hown : w.ownsRow base e size v n xs)
    (ad : Addr) (m c : Nat) (news : List Value) (hx : a.eval x = .slice (some ad) m c) (hl : news.length = m * size) (hnews : ∀ j u, news[j]? = some u → w.cell? (ad.add j) = some u) (h1 : ∀ u ∈ news, u.oneCell' = true)
    (hn : 0 < n) (h63 : n + m ≤ maxLen) (hbytes : (n + m) * bytes ≤ 140737488355328) (hbase : base ≤ w.heap.size)
    (h : ∀ g cap w', w'.ownsRow base e size (.slice (some ⟨g, 0, none⟩) (n + m) cap) (n + m) (xs ++ news) → w.grownBy w' v.ownBlock → K (a.put o.dst (.slice (some ⟨g, 0, none⟩) (n + m) cap)) w') :
    if Region.wanted o (yielded ops a.tmps) = true then Oper.wp P o a w K Q else E := by
  have hw : Region.wanted o (yielded ops a.tmps) = true := by simp [Region.wanted, hgd]
  rw [if_pos hw]
  exact wp_append_own w s x t ho base e i z size bytes ht hi hz hsize hby hzs hsz v n xs hs hown ad m c news hx hl hnews h1 h63 hbytes hbase fun v' w' h2 h3 _ => by
    obtain ⟨g, cap, rfl⟩ := Joins.ownsRow_form h2 (by omega)
    exact h g cap w' h2 h3

theorem cutAt_length (l : List St) (k : Nat) (t : Int) (hk : k < l.length) : (cutAt l k t).length = l.length + 1 := by
  simp [cutAt]; omega
theorem flat_cutAt (l : List St) (k : Nat) (t : Int) : flat (cutAt l k t) = flat (l.take (k + 1)) ++ ((⟨t, (nth l k).f⟩ : St).cells ++ flat (l.drop (k + 1))) := by
  simp [cutAt, flat]

/-- a row that is owned reads as the steps that it holds -/
theorem Row.of_owns {w : World} {base g cap n : Nat} {l : List St} {xs : List Value} (h : w.ownsRow base 43 5 (.slice (some ⟨g, 0, none⟩) n cap) n xs) (hn : n = l.length) (hx : xs = flat l) : Row w g cap l ∧ base ≤ g := by
  obtain ⟨_, h | ⟨g', cap', cur, hv, hb, hg, hc, hm, hs, ht⟩⟩ := h
  · cases h.1
  · cases hv
    subst hn
    refine ⟨⟨hc, ?_, cur, hg, hs, ht.trans hx⟩, hb⟩
    simpa only [maxLen] using hm

theorem Mod.of_below {S : Nat → Prop} {w w' : World} (h : Below w.heap.size w w') : Mod S w w' := ⟨h.os, h.tape, h.output, h.size, fun k hk _ => h.block k hk⟩
theorem Mod.refl (S : Nat → Prop) (w : World) : Mod S w w := ⟨rfl, rfl, rfl, Nat.le_refl _, fun _ _ _ => rfl⟩
theorem Mod.trans {S : Nat → Prop} {w w1 w2 : World} (h : Mod S w w1) (h2 : Mod (fun k => S k ∨ w.heap.size ≤ k) w1 w2) : Mod S w w2 :=
  ⟨h2.os.trans h.os, h2.tape.trans h.tape, h2.output.trans h.output, Nat.le_trans h.size h2.size, fun k hk hS => (h2.block k (Nat.lt_of_lt_of_le hk h.size) (fun c => by rcases c with c | c; exact hS c; omega)).trans (h.block k hk hS)⟩
theorem Mod.mono {S S' : Nat → Prop} {w w' : World} (h : Mod S w w') (hs : ∀ k, k < w.heap.size → S k → S' k) : Mod S' w w' := ⟨h.os, h.tape, h.output, h.size, fun k hk hS => h.block k hk fun c => hS (hs k hk c)⟩
theorem Mod.setCell {S : Nat → Prop} (w : World) (b o : Nat) (v : Value) (hS : S b) : Mod S w (w.setCell ⟨b, o, none⟩ v) :=
  ⟨rfl, rfl, rfl, by simp [World.setCell], fun k _ hk => Below.heap_setCell _ _ _ _ (fun e => hk (by simpa [e] using hS))⟩
theorem Mod.grown {S : Nat → Prop} {w w' : World} {row : Option Nat} (h : w.grownBy w' row) (hr : ∀ k, row = some k → S k) : Mod S w w' :=
  ⟨h.os, h.tape, h.output, h.size, fun k hk hS => h.block k hk fun e => hS (hr k e.symm)⟩
theorem Mod.alloc (S : Nat → Prop) (w : World) (o : Obj) : Mod S w (w.alloc o) := Mod.of_below ((Below.refl _ _).alloc (Nat.le_refl _) _)
theorem Mod.drew {S : Nat → Prop} {w w' : World} (h : Mod S w w') : Mod S w w'.drew := ⟨h.os, h.tape, h.output, h.size, h.block⟩
theorem Mod.drewN {S : Nat → Prop} {w w' : World} {n : Nat} (h : Mod S w w') : Mod S w (w'.drewN n) := ⟨h.os, h.tape, h.output, h.size, h.block⟩

theorem cut_fin {pb sb cap : Nat} {whole : V4} {l : List St} {t : Int} {w w2 w3 w4 : World} {k m g3 cap3 : Nat} {X : Obj} {c1 c2 : Nat}
    (hb2 : Below w.heap.size w w2) (_hpb : pb < w.heap.size) (hp2 : Prof w2 pb sb cap whole l) (hk : IsPlace l t k) (ht : (nth l k).t ≠ t) (hm : m = l.length - (k + 1))
    (hgrow : (w2.alloc X).drew.grownBy w3 (Value.slice (some ⟨w2.heap.size, 0, none⟩) c1 c2).ownBlock) (hgrow3 : w3.grownBy w4 none)
    (hown3 : w4.ownsRow w3.heap.size 43 5 (.slice (some ⟨g3, 0, none⟩) (k + 1 + (1 + m)) cap3) (k + 1 + (1 + m)) (flat (l.take (k + 1)) ++ ((⟨t, (nth l k).f⟩ : St).cells ++ flat (l.drop (k + 1)))))
    {e : Ending} (he : e = .returned (.int .i64 ((k : Int) + 1))) :
    CutPost pb sb cap whole l t w e (w4.setCell ⟨pb, 4, none⟩ (.slice (some ⟨g3, 0, none⟩) (k + 1 + (1 + m)) cap3)) := by
  have hk1 := hk.1
  have hlen : k + 1 + (1 + m) = (cutAt l k t).length := by rw [cutAt_length l k t hk1]; omega
  obtain ⟨hrow, hg⟩ := Row.of_owns hown3 hlen (flat_cutAt l k t).symm
  have hpb2 := blk_lt hp2.head
  have s1 : w2.heap.size < (w2.alloc X).drew.heap.size := by simp
  have s2 := hgrow.size
  have s3 := hb2.size
  have b3 : w3.heap[pb]? = w2.heap[pb]? := (hgrow.block pb (by omega) (by simp [Value.ownBlock]; omega)).trans (Below.heap_alloc w2 X pb hpb2)
  have b4 : w4.heap[pb]? = w3.heap[pb]? := hgrow3.block pb (by omega) (by simp)
  refine ⟨k + 1, k, g3, cap3, cutAt l k t, by rw [he]; simp, hk, .inr ⟨ht, rfl, rfl, by omega⟩, ⟨?_, ?_, by omega⟩, ?_⟩
  · rw [blk_set ((b4.trans b3).trans hp2.head)]
    simp [hlen]
  · exact hrow.of_block (Below.heap_setCell _ _ _ _ (show g3 ≠ pb by omega))
  · refine Mod.trans (w1 := w2) (Mod.of_below hb2) ?_
    refine Mod.trans (w1 := w4) ?_ (Mod.setCell _ _ _ _ (.inl (.inl rfl)))
    refine Mod.trans (w1 := w3) ?_ (Mod.grown hgrow3 (by simp))
    refine Mod.trans (w1 := (w2.alloc X).drew) (Mod.drew (Mod.alloc _ _ _)) (Mod.grown hgrow ?_)
    intro k hk
    simp [Value.ownBlock] at hk
    omega

set_option maxRecDepth 100000 in
set_option maxHeartbeats 1600000 in
theorem cut_any (pb sb cap : Nat) (whole : V4) (l : List St) (t : Int) (w : World) (hp : Prof w pb sb cap whole l) (hl : Loose l) (h3 : 0 ≤ t) (h4 : t ≤ 1099511627776) :
    Calls Try.prog 96 #[.pointer (some ⟨pb, 0, none⟩), .int .i64 t] w (CutPost pb sb cap whole l t w) := by
  have hlen := hl.len
  replace hp := Lib.hid hp
  replace hl := Lib.hid hl
  obtain ⟨i0, hi0, hz0, hz1, hz2⟩ := info_parts info43
  go_enter Try.func96, Try.ntmps96
  go_wp2_with fail
  refine (place_any pb sb cap whole l t w hp.out hl.out h3 h4).mono ?_
  rintro e w2 ⟨k, rfl, hk, hb2⟩
  have hp2 : Prof w2 pb sb cap whole l := ⟨blk_below hb2 hp.out.head (blk_lt hp.out.head), hp.out.row.below hb2 hp.out.row.lt, hp.out.ne⟩
  have hk1 := hk.1
  have hk1' : (k : Int) < l.length := by omega
  replace hk := Lib.hid hk
  replace hb2 := Lib.hid hb2
  have p4 := blk_cell hp2.head 4
  have pf := blk_free hp2.head 4
  simp at p4
  obtain ⟨c0, c1, c2, c3, c4⟩ := hp2.row.cells hk1
  have hcap := hp2.row.le
  have hcapm := hp2.row.max
  have lp := blk_lt hp2.head
  have ls := hp2.row.lt
  have hne := hp2.ne
  replace hp2 := Lib.hid hp2
  by_cases ht : (nth l k).t = t
  · have ht' : ((nth l k).t == t) = true := by simpa using ht
    replace ht := Lib.hid ht
    go_wp2
    go_ret
    exact ⟨k, k, sb, cap, l, rfl, hk.out, .inl ⟨ht.out, rfl, rfl, rfl, rfl⟩, hp2.out, Mod.of_below hb2.out⟩
  · have ht' : ((nth l k).t == t) = false := by simpa using ht
    replace ht := Lib.hid ht
    go_wp2_with fail
    have hs1 := slice_to (i := i0) Try.underlying30 hi0 sb l.length cap (k + 1) ((k : Int) + 1) (by omega) (by omega)
    obtain ⟨ta, m, mc, hs2, hta, hm⟩ : ∃ ta m mc, (∀ w, (Instr.slice 30 (.slice (some ⟨sb, 0, none⟩) l.length cap) (some (.int .i64 ((k : Int) + 1))) none none).run Try.prog w = .ok (.slice (some ta) m mc) w) ∧ (k + 1 < cap → ta = ⟨sb, (k + 1) * i0.size, none⟩) ∧ Hid (m = l.length - (k + 1)) := by
      obtain ⟨ta, h1, h2⟩ := slice_from (i := i0) Try.underlying30 hi0 sb l.length cap (k + 1) ((k : Int) + 1) (by omega) (by omega)
      exact ⟨ta, _, _, h1, h2, rfl⟩
    rw [hz1] at hta
    replace hta := Lib.hid hta
    have hml := hm.out
    have q1 := Lib.hid (show (flat (l.drop (k + 1))).length = m * 5 by rw [flat_length, List.length_drop, hm.out])
    have q2 : Hid (∀ j u, (flat (l.drop (k + 1)))[j]? = some u → ((w2.alloc (.cells (⟨t, (nth l k).f⟩ : St).cells.toArray 43)).drew).cell? (ta.add j) = some u) := by
      have h := hp2.out.row.tail (k + 1) (by omega)
      intro j u hu
      have hj : j < (flat (l.drop (k + 1))).length := (List.getElem?_eq_some_iff.1 hu).1
      rw [flat_length, List.length_drop] at hj
      have h2 := h j u hu
      rw [hta.out (by omega)]
      refine (World.cell?_of_block (w := w2) ?_).trans h2
      have e : ((⟨sb, (k + 1) * 5, none⟩ : Addr).add j).block = sb := by unfold Addr.add; split <;> rfl
      rw [e]
      exact Below.heap_alloc w2 _ sb ls
    have q3 := Lib.hid (show 1 + m ≤ maxLen by simp only [maxLen]; omega)
    have q4 := Lib.hid (show (1 + m) * 40 ≤ 140737488355328 by omega)
    have q6 := Lib.hid (show (flat (l.take (k + 1))).length = (k + 1) * 5 by rw [flat_length, List.length_take, Nat.min_eq_left (by omega)])
    have q7 := Lib.hid (hp2.out.row.front (k + 1) (by omega))
    clear hml
    have tok1 : True := trivial
    have lp1 : pb < (w2.alloc (.cells (⟨t, (nth l k).f⟩ : St).cells.toArray 43)).drew.heap.size := by simp; omega
    have ls1 : sb < (w2.alloc (.cells (⟨t, (nth l k).f⟩ : St).cells.toArray 43)).drew.heap.size := by simp; omega
    have lp2 : some pb ≠ (Value.slice (some ⟨w2.heap.size, 0, none⟩) 1 1).ownBlock := by simp [Value.ownBlock]; omega
    have ls2 : some sb ≠ (Value.slice (some ⟨w2.heap.size, 0, none⟩) 1 1).ownBlock := by simp [Value.ownBlock]; omega
    replace lp1 := Lib.hid lp1; replace ls1 := Lib.hid ls1; replace lp2 := Lib.hid lp2; replace ls2 := Lib.hid ls2
    go_region_law
        (first
          | (have _t := tok1
             refine step_append_mine (by rfl) _ _ _ (by rfl) (w2.heap.size) 43 i0 _ 5 40 Try.underlying30 hi0 hz0 hz1 hz2 rfl (by omega) _ 1 ((⟨t, (nth l k).f⟩ : St).cells) (by rfl) ((owns_one w2 w2.heap.size ⟨t, (nth l k).f⟩ (Nat.le_refl _)).drew)
              ta m mc (flat (l.drop (k + 1))) (by rfl) q1.out q2.out (flat_one _) (by omega) q3.out q4.out (by simp) ?_
             intro g cap1 w3 hown1 hgrow
             have p43 : w3.cell? ⟨pb, 4, none⟩ = some (.slice (some ⟨sb, 0, none⟩) l.length cap) := by rw [hgrow.cell_far _ lp1.out lp2.out, World.cell?_of_block (w := w2) (Below.heap_alloc w2 _ pb lp)]; exact p4
             clear tok1)
          | (have _t := hown1
             have hg := hgrow.size
             have lp3 : pb < w3.heap.size := by have := lp1.out; simp at this hg; omega
             have ls3 : sb < w3.heap.size := by have := ls1.out; simp at this hg; omega
             have s1 : ∀ b, some (⟨sb, 0, none⟩ : Addr) = some b → ∀ j u, (flat (l.take (k + 1)))[j]? = some u → w3.cell? (b.add j) = some u := by
               intro b hb j u hu
               cases hb
               have h1 := q7.out j u hu
               have hbl : ((⟨sb, 0, none⟩ : Addr).add j).block = sb := by unfold Addr.add; split <;> rfl
               rw [hgrow.cell_far _ (by rw [hbl]; exact ls1.out) (by rw [hbl]; exact ls2.out)]
               rw [World.cell?_of_block (w := w2) (by rw [hbl]; exact Below.heap_alloc w2 _ sb ls)]
               exact h1
             have s2 : ∀ u ∈ (⟨t, (nth l k).f⟩ : St).cells ++ flat (l.drop (k + 1)), u.oneCell' = true := by
               intro u hu
               rcases List.mem_append.1 hu with h | h
               · simp [St.cells] at h
                 rcases h with rfl | rfl | rfl | rfl | rfl <;> rfl
               · exact flat_one _ u h
             have s3 : k + 1 < k + 1 + (1 + m) := by omega
             have s4 : k + 1 + (1 + m) ≤ maxLen := by have := hm.out; simp only [maxLen]; omega
             have s5 : (k + 1 + (1 + m)) * 40 ≤ 140737488355328 := by have := hm.out; omega
             replace s1 := Lib.hid s1; replace s2 := Lib.hid s2
             refine step_append_grows (by rfl) _ _ _ (by rfl) 43 i0 _ 5 40 Try.underlying30 hi0 hz0 hz1 hz2 rfl (by omega) (some ⟨sb, 0, none⟩) (k + 1) (k + 1) (flat (l.take (k + 1))) (by rfl) (by simp) q6.out s1.out ⟨g, 0, none⟩ (1 + m) cap1 _ (by rfl) hown1.1 (hown1.cells rfl) s2.out s3 s4 s5 ?_
             intro v3 w4 hown3 hgrow3
             obtain ⟨g3, cap3, rfl⟩ := Joins.ownsRow_form hown3 (by omega)
             have pf4 : w4.frozen? ⟨pb, 4, none⟩ = false := by rw [hgrow3.frozen_far _ lp3 (by simp), hgrow.frozen_far _ lp1.out lp2.out, World.frozen?_of_block (w := w2) (Below.heap_alloc w2 _ pb lp)]; exact pf
             have p44 : w4.cell? ⟨pb, 4, none⟩ = some (.slice (some ⟨sb, 0, none⟩) l.length cap) := by rw [hgrow3.cell_far _ lp3 (by simp), hgrow.cell_far _ lp1.out lp2.out, World.cell?_of_block (w := w2) (Below.heap_alloc w2 _ pb lp)]; exact p4
             clear s4 s5 s3))
    all_goals
      clear hs1 hs2
      go_wp2
      go_ret
      exact cut_fin hb2.out (blk_lt hp.out.head) hp2.out hk.out ht.out hm.out hgrow hgrow3 hown3 rfl
end Go.Proofs.Ytpjajiambbobhaa

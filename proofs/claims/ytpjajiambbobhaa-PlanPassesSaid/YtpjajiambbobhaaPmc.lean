/- plan: plain laws of what is used of a pool, and of the first example. No condition. -/
import Derived.Test.YtpjajiambbobhaaPmb
import Derived.Test.YtpjajiambbobhaaGtkp
import Derived.Test.YtpjajiambbobhaaGawp
/- What is used of a pool, told by holds and slots. Plain theorems: no condition. -/
namespace Go.Proofs.Ytpjajiambbobhaa
open Go.RowKit

abbrev Used := Nat → Int → V4
def itm (zs : List Int) (fr tt : Int) (v : V4) : Used := fun i u => if Among zs zs.length i ∧ fr ≤ u ∧ u < tt then v else V4.zero
def noU : Used := fun _ _ => V4.zero
def addU (U W : Used) : Used := fun i u => add4 (U i u) (W i u)
def sumU : List Used → Used
  | [] => noU
  | x :: xs => addU x (sumU xs)
def nn (U : Used) : Prop := ∀ i u, V4.zero.leq (U i u)
theorem add4_assoc (a b c : V4) : add4 (add4 a b) c = add4 a (add4 b c) := by simp [add4]; omega
theorem add4_comm (a b : V4) : add4 a b = add4 b a := by simp [add4]; omega
theorem add4_zero (a : V4) : add4 a V4.zero = a := by simp [add4, V4.zero]
theorem zero_add4 (a : V4) : add4 V4.zero a = a := by simp [add4, V4.zero]
theorem addU_assoc (a b c : Used) : addU (addU a b) c = addU a (addU b c) := by funext i u; exact add4_assoc _ _ _
theorem addU_comm (a b : Used) : addU a b = addU b a := by funext i u; exact add4_comm _ _
theorem addU_no (a : Used) : addU a noU = a := by funext i u; exact add4_zero _
theorem no_addU (a : Used) : addU noU a = a := by funext i u; exact zero_add4 _
theorem sumU_app (xs ys : List Used) : sumU (xs ++ ys) = addU (sumU xs) (sumU ys) := by
  induction xs with
  | nil => exact (no_addU _).symm
  | cons x xs ih => show addU x (sumU (xs ++ ys)) = addU (addU x (sumU xs)) (sumU ys); rw [ih, addU_assoc]
theorem zero_leq {v : V4} : V4.zero.leq v ↔ 0 ≤ v.a ∧ 0 ≤ v.b ∧ 0 ≤ v.c ∧ 0 ≤ v.d := by simp [V4.leq, V4.zero]
theorem right_zero {v : V4} (h : v.right = true) : V4.zero.leq v := by rw [zero_leq]; have := right_iff.1 h; omega
theorem nn_no : nn noU := fun _ _ => zero_leq.2 (by simp [noU, V4.zero])
theorem nn_add {a b : Used} (h : nn a) (k : nn b) : nn (addU a b) := fun i u => by
  have h1 := zero_leq.1 (h i u); have h2 := zero_leq.1 (k i u)
  rw [zero_leq]; simp [addU, add4]; omega
theorem nn_itm {zs : List Int} {fr tt : Int} {v : V4} (h : v.right = true) : nn (itm zs fr tt v) := fun i u => by
  unfold itm
  split
  · exact right_zero h
  · exact zero_leq.2 (by simp [V4.zero])
theorem nn_sum {xs : List Used} (h : ∀ x, x ∈ xs → nn x) : nn (sumU xs) := by
  induction xs with
  | nil => exact nn_no
  | cons x xs ih => exact nn_add (h x (List.mem_cons_self ..)) (ih fun y hy => h y (List.mem_cons_of_mem _ hy))
theorem leq_add {a b c : V4} (h : (add4 a b).leq c) (hb : V4.zero.leq b) : a.leq c := by
  have := zero_leq.1 hb
  simp [V4.leq, add4] at *; omega

/-- a pool of which so much is used -/
structure Held (vs : List V4) (U : Used) (q : List Nd) : Prop where
  len : q.length = vs.length
  whole : ∀ i, i < q.length → (nd q i).whole = vv vs i
  inv : ∀ i, i < q.length → Inv (nd q i).whole (nd q i).l
  val : ∀ i, i < q.length → ∀ u, 0 ≤ u → u < 1099511627776 → add4 (val (nd q i).l u) (U i u) = vv vs i
theorem Held.loose {vs : List V4} {U : Used} {q : List Nd} (h : Held vs U q) : ∀ i, i < q.length → Loose (nd q i).l := fun i hi => (h.inv i hi).loose
theorem held_fresh {vs : List V4} {ps : List Nd} (h : Fresh vs ps) : Held vs noU ps :=
  ⟨h.len, fun i hi => (h.node i (by rw [← h.len]; exact hi)).1, h.inv, fun i hi u h0 _ => by
    rw [(h.node i (by rw [← h.len]; exact hi)).2]
    simp [val, valR, h0, noU, add4_zero]⟩
theorem Held.eqU {vs : List V4} {U W : Used} {q : List Nd} (h : Held vs U q) (e : U = W) : Held vs W q := e ▸ h
theorem Held.sameL {vs : List V4} {U : Used} {p q : List Nd} (h : Held vs U p) (hl : Like p q) (hs : SameL p q) : Held vs U q :=
  ⟨hl.len.trans h.len, fun i hi => by rw [hl.len] at hi; exact (hl.whole i hi).trans (h.whole i hi), hl.inv, fun i hi u h0 h1 => by
    rw [hl.len] at hi
    rw [hs i hi]; exact h.val i hi u h0 h1⟩
theorem Held.le {vs : List V4} {U : Used} {q : List Nd} (h : Held vs U q) {i : Nat} (hi : i < q.length) {u : Int} (h0 : 0 ≤ u) (h1 : u < 1099511627776) : (U i u).leq (vv vs i) := by
  have := h.val i hi u h0 h1
  have hr := right_iff.1 ((h.inv i hi).free u h0 h1).1
  rw [← this]; simp [V4.leq, add4]; omega
theorem span_parts {fr tt : Int} {v : V4} (h : spanL fr tt v = true) : 0 ≤ fr ∧ fr < tt ∧ tt ≤ 1099511627776 ∧ v.right = true := spanL_true h
theorem held_took {vs : List V4} {U : Used} {p q : List Nd} {zs : List Int} {fr tt : Int} {v : V4} (h : Held vs U p) (ht : TookL p zs fr tt v 0 q) :
    Held vs (addU U (itm zs fr tt v)) q ∧ Gang vs.length zs ∧ spanL fr tt v = true := by
  obtain ⟨hg, hl⟩ := ht
  rcases hg with ⟨_, c, _⟩ | ⟨_, _, _, c, _⟩ | ⟨h1, h2, h3, _, h4⟩
  · cases c
  · cases c
  · refine ⟨⟨hl.len.trans h.len, fun i hi => ?_, hl.inv, fun i hi u h0 hu => ?_⟩, h.len ▸ h1, h2⟩
    · rw [hl.len] at hi; exact (hl.whole i hi).trans (h.whole i hi)
    · rw [hl.len] at hi
      have hv := h.val i hi u h0 hu
      by_cases ha : Among zs zs.length i
      · rw [(h4 i hi).1 ha u h0 hu]
        by_cases hu2 : fr ≤ u ∧ u < tt
        · rw [if_pos hu2, ← hv]; simp [addU, itm, ha, hu2, add4, sub4]; omega
        · rw [if_neg hu2, ← hv]; simp [addU, itm, hu2, add4_zero]
      · rw [(h4 i hi).2 ha, ← hv]; simp [addU, itm, ha, add4_zero]
theorem took_yes {vs : List V4} {U : Used} {p q : List Nd} {zs : List Int} {fr tt : Int} {v : V4} {r : Int} (h : Held vs U p) (hg : Gang vs.length zs) (hs : spanL fr tt v = true)
    (hf : ∀ i, i < vs.length → ∀ u, 0 ≤ u → u < 1099511627776 → (addU U (itm zs fr tt v) i u).leq (vv vs i)) (ht : TookG p zs fr tt v r q) : r = 0 := by
  rcases ht with ⟨c, _⟩ | ⟨_, _, c, _⟩ | ⟨_, _, _, c, _⟩
  · exact absurd ⟨h.len ▸ hg, hs⟩ c
  · obtain ⟨s1, s2, s3, _⟩ := span_parts hs
    refine absurd (fun i hi ha u h0 h1 => ?_) c
    have := hf i (h.len ▸ hi) u (by omega) (by omega)
    rw [← h.val i hi u (by omega) (by omega)] at this
    simp [addU, itm, ha, h0, h1, add4, V4.leq] at this ⊢
    omega
  · exact c
theorem held_gave {vs : List V4} {U : Used} {p q : List Nd} {zs : List Int} {fr tt : Int} {v : V4} {r : Int} (h : Held vs (addU U (itm zs fr tt v)) p) (hn : nn U) (hg : Gang vs.length zs) (hs : spanL fr tt v = true)
    (hl : Like p q) (ht : GaveG p zs fr tt v r q) : r = 0 ∧ Held vs U q := by
  obtain ⟨s1, s2, s3, _⟩ := span_parts hs
  rcases ht with ⟨c, _⟩ | ⟨_, _, c, _⟩ | ⟨_, _, _, c, h4⟩
  · exact absurd ⟨h.len ▸ hg, hs⟩ c
  · refine absurd (fun i hi ha u h0 h1 => ?_) c
    have := h.val i hi u (by omega) (by omega)
    have hz := zero_leq.1 (hn i u)
    rw [h.whole i hi, ← this]
    simp [addU, itm, ha, h0, h1, add4, V4.leq]
    omega
  · refine ⟨c, hl.len.trans h.len, fun i hi => ?_, hl.inv, fun i hi u h0 hu => ?_⟩
    · rw [hl.len] at hi; exact (hl.whole i hi).trans (h.whole i hi)
    · rw [hl.len] at hi
      have hv := h.val i hi u h0 hu
      by_cases ha : Among zs zs.length i
      · rw [(h4 i hi).1 ha u h0 hu]
        by_cases hu2 : fr ≤ u ∧ u < tt
        · rw [if_pos hu2, ← hv]; simp [addU, itm, ha, hu2, add4]; omega
        · rw [if_neg hu2, ← hv]; simp [addU, itm, hu2, add4_zero]
      · rw [(h4 i hi).2 ha, ← hv]; simp [addU, itm, ha, add4_zero]
theorem held_same {vs : List V4} {U W : Used} {p q : List Nd} (h : Held vs U p) (k : Held vs W q) (e : U = W) : SameL p q := fun i hi => by
  subst e
  have hi' : i < q.length := by rw [k.len, ← h.len]; exact hi
  refine canon (k.inv i hi').loose (h.inv i hi).loose (k.inv i hi').unlike (h.inv i hi).unlike fun u h0 h1 => ?_
  have a := h.val i hi u h0 h1
  have b := k.val i hi' u h0 h1
  rw [← a] at b
  simp [add4] at b
  obtain ⟨b1, b2, b3, b4⟩ := b
  cases hx : val (nd q i).l u; cases hy : val (nd p i).l u
  simp [hx, hy] at *
  omega
theorem held_ok {vs : List V4} {U : Used} {q : List Nd} (h : Held vs U q) {i : Nat} (hi : i < q.length) {ticks u : Int} {v : V4} (h0 : 0 ≤ u) (h1 : 1 ≤ ticks) :
    OkT (nd q i).l ticks v u ↔ u + ticks ≤ 1099511627776 ∧ ∀ x, u ≤ x → x < u + ticks → (add4 (U i x) v).leq (vv vs i) := by
  unfold OkT
  rw [okAt_iff (h.loose i hi) h0 h1, And.comm]
  refine and_congr_right fun hm => ⟨fun hh x a b => ?_, fun hh x a b => ?_⟩
  · have := hh x a b
    rw [← h.val i hi x (by omega) (by omega)]
    simp [V4.leq, add4] at *; omega
  · have := hh x a b
    rw [← h.val i hi x (by omega) (by omega)] at this
    simp [V4.leq, add4] at *; omega

def holdU (now : Int) (h : Hold) : Used := itm h.gzs now (holdEnd now h) h.v
def keptU (now : Int) (x : Ask × Bool) : Used := if x.2 = true then itm x.1.gzs (from_ now x.1) (from_ now x.1 + x.1.ticks) x.1.v else noU
def slotU (x : Ask × Slot) : Used := if 0 ≤ x.2.start then itm x.2.gzs x.2.start (x.2.start + x.1.ticks) x.1.v else noU
theorem chain_held {now : Int} {vs : List V4} {hs : List Hold} : ∀ {U : Used} {p q : List Nd}, Chain (HoldTook now) hs p q → Held vs U p →
    Held vs (addU U (sumU (hs.map (holdU now)))) q ∧ ∀ h, h ∈ hs → Gang vs.length h.gzs ∧ spanL now (holdEnd now h) h.v = true := by
  induction hs with
  | nil => intro U p q h k; cases h; exact ⟨k.eqU (addU_no _).symm, fun h hh => by cases hh⟩
  | cons x xs ih =>
    intro U p q h k
    obtain ⟨m, h1, h2⟩ := h
    obtain ⟨k1, k2, k3⟩ := held_took k h1
    obtain ⟨k4, k5⟩ := ih h2 k1
    refine ⟨k4.eqU (by rw [addU_assoc]; rfl), fun h hh => ?_⟩
    rcases List.mem_cons.1 hh with rfl | hh
    · exact ⟨k2, k3⟩
    · exact k5 h hh
/-- what the holds use -/
def holdsU (now : Int) (hs : List Hold) : Used := sumU (hs.map (holdU now))
theorem lay_held {vs : List V4} {un : Nat} {now : Int} {hs : List Hold} {ps : List Nd} (h : LayRel vs un now hs 0 ps) :
    LayOk vs un now ∧ Held vs (holdsU now hs) ps ∧ ∀ h, h ∈ hs → Gang vs.length h.gzs ∧ spanL now (holdEnd now h) h.v = true := by
  rcases h with ⟨_, c⟩ | ⟨hok, ps0, hf, ⟨_, hc⟩ | ⟨c, _⟩⟩
  · cases c
  · obtain ⟨h1, h2⟩ := chain_held hc (held_fresh hf)
    exact ⟨hok, h1.eqU (no_addU _), h2⟩
  · exact absurd rfl c
theorem nn_holds {vs : List V4} {now : Int} {hs : List Hold} (h : ∀ h, h ∈ hs → Gang vs.length h.gzs ∧ spanL now (holdEnd now h) h.v = true) : nn (holdsU now hs) :=
  nn_sum fun x hx => by
    obtain ⟨y, hy, rfl⟩ := List.mem_map.1 hx
    exact nn_itm (span_parts (h y hy).2).2.2.2

structure KeptOk (vs : List V4) (now : Int) (bs : List Bool) (a : Ask) : Prop where
  pre : TakePre bs now a (from_ now a) a.gzs
  start : 0 ≤ a.start
  gang : Gang vs.length a.gzs
  span : spanL (from_ now a) (from_ now a + a.ticks) a.v = true
theorem kept_chain {now : Int} {bs : List Bool} {vs : List V4} {st : List (Ask × Bool)} : ∀ {U : Used} {p q : List Nd}, Chain (KeptR now bs) st p q → Held vs U p →
    Held vs (addU U (sumU (st.map (keptU now)))) q ∧ ∀ x, x ∈ st → x.2 = true → KeptOk vs now bs x.1 := by
  induction st with
  | nil => intro U p q h k; cases h; exact ⟨k.eqU (addU_no _).symm, fun h hh => by cases hh⟩
  | cons x xs ih =>
    intro U p q h k
    obtain ⟨m, h1, h2⟩ := h
    obtain ⟨a, b⟩ := x
    have hm : Held vs (addU U (keptU now (a, b))) m ∧ (b = true → KeptOk vs now bs a) := by
      cases b with
      | false =>
        have e : addU U (keptU now (a, false)) = U := by simp [keptU, addU_no]
        rw [e]
        refine ⟨?_, fun c => by cases c⟩
        rcases h1 with ⟨_, _, rfl⟩ | ⟨_, _, _, rfl⟩ | ⟨_, _, r, ⟨h3, h4⟩, h5⟩
        · exact k
        · exact k
        · have hr : r ≠ 0 := fun c => by have := h5.2 c; cases this
          rcases h3 with ⟨_, _, hs⟩ | ⟨_, _, _, _, hs⟩ | ⟨_, _, _, c, _⟩
          · exact k.sameL h4 hs
          · exact k.sameL h4 hs
          · exact absurd c hr
      | true =>
        obtain ⟨c1, c2, c3, c4⟩ := kept_span h1
        obtain ⟨k1, k2, _⟩ := held_took k c4
        have hst : 0 ≤ a.start := by
          rcases h1 with ⟨_, c, _⟩ | ⟨_, _, c, _⟩ | ⟨c, _⟩
          · cases c
          · cases c
          · exact c
        exact ⟨by simpa [keptU] using k1, fun _ => ⟨c1, hst, k2, c3⟩⟩
    obtain ⟨k4, k5⟩ := ih h2 hm.1
    refine ⟨k4.eqU (by rw [addU_assoc]; rfl), fun y hy => ?_⟩
    rcases List.mem_cons.1 hy with rfl | hy
    · exact hm.2
    · exact k5 y hy
/-- what a slot says -/
def SlotOk (vs : List V4) (now : Int) (bs : List Bool) (a : Ask) (s : Slot) : Prop :=
  s.id = a.id ∧ ((s.start = -1 ∧ s.gzs = []) ∨ (a.can = true ∧ now ≤ s.start ∧ s.start < 1099511627776 ∧ OfAsk bs a s.gzs ∧ Gang vs.length s.gzs ∧ spanL s.start (s.start + a.ticks) a.v = true))
theorem rise_len {xs ys : List Nat} (h : xs.Pairwise (· < ·)) (hm : ∀ x, x ∈ xs → x ∈ ys) : xs.length ≤ ys.length := by
  induction xs generalizing ys with
  | nil => exact Nat.zero_le _
  | cons x xs ih =>
    have h1 := List.pairwise_cons.1 h
    have hx := hm x (List.mem_cons_self ..)
    have := ih (ys := ys.erase x) h1.2 (fun y hy => (List.mem_erase_of_ne (by have := h1.1 y hy; omega)).2 (hm y (List.mem_cons_of_mem _ hy)))
    rw [List.length_erase_of_mem hx] at this
    have := List.length_pos_of_mem hx
    simp; omega
theorem plc_rise (bs : List Bool) (zs : List Int) : (plc bs zs).Pairwise (· < ·) := List.Pairwise.filter _ List.pairwise_lt_range
theorem of_found {ps : List Nd} {bs : List Bool} {a : Ask} {t : Int} {after : Int} {xs : List Nat} (h : Found ps (ints (plc bs a.pzs)) a.nodes a.v a.ticks after t xs) : OfAsk bs a (ints xs) := by
  obtain ⟨h1, h2, h3⟩ := h.gang
  have hl := h.len
  have hle : (ints xs).length = xs.length := by simp [ints]
  refine ⟨fun i hi => ?_, h1.rise, by rw [hle]; exact hl⟩
  have hz : zi (ints xs) i = ((xs[i]'(by rw [← hle]; exact hi) : Nat) : Int) := by
    rw [hle] at hi
    simp [zi, ints, List.getD, hi]
  rw [hz]
  have := among_ints.1 (h2 _ (List.getElem_mem (by rw [← hle]; exact hi))).2.1
  exact List.mem_map.2 ⟨_, this, rfl⟩
theorem found_slot {vs : List V4} {now : Int} {bs : List Bool} {a : Ask} {s : Slot} {U : Used} {p q : List Nd} (hnow : 0 ≤ now) (hid : s.id = a.id) (h : FoundR now bs a s.start s.gzs p q) (k : Held vs U p) : Held vs (addU U (slotU (a, s))) q ∧ SlotOk vs now bs a s := by
  have hno : s.start = -1 → addU U (slotU (a, s)) = U := fun e => by
    have : ¬ (0 ≤ (a, s).2.start) := by show ¬ 0 ≤ s.start; omega
    simp only [slotU, if_neg this, addU_no]
  rcases h with ⟨_, h1, h2, rfl⟩ | ⟨hc, t, xs, is, hR, h1, h2⟩
  · exact ⟨k.eqU (hno h1).symm, hid, .inl ⟨h1, h2⟩⟩
  · cases is with
    | false =>
      obtain ⟨h3, h4, rfl⟩ := h1 rfl
      exact ⟨k.eqU (hno h3).symm, hid, .inl ⟨h3, h4⟩⟩
    | true =>
      obtain ⟨h3, h4, r, h5⟩ := h2 rfl
      have hf := hR.found
      have hge := hf.ge
      have hr : r = 0 := (hf.take (k.loose) h5.1).1
      subst hr
      obtain ⟨k1, k2, k3⟩ := held_took k h5
      have hs : 0 ≤ (a, s).2.start := by show 0 ≤ s.start; omega
      refine ⟨k1.eqU ?_, hid, .inr ⟨hc, by omega, by rw [h3]; exact hf.lt, by rw [h4]; exact of_found hf, by rw [h4]; exact k2, by rw [h3]; exact k3⟩⟩
      simp only [slotU, if_pos hs]
      rw [h3, h4]
def pairU (x : (Ask × Bool) × Slot) : Used := slotU (x.1.1, x.2)
theorem rounds_held {now : Int} {bs : List Bool} {vs : List V4} {rd : List ((Ask × Bool) × Slot)} (hnow : 0 ≤ now) : ∀ {U : Used} {p q : List Nd}, Chain (RoundR now bs) rd p q → Held vs (addU U (sumU (rd.map fun x => keptU now x.1))) p → nn U →
    (∀ x, x ∈ rd → x.1.2 = true → KeptOk vs now bs x.1.1) → Held vs (addU U (sumU (rd.map pairU))) q ∧ ∀ x, x ∈ rd → SlotOk vs now bs x.1.1 x.2 := by
  induction rd with
  | nil => intro U p q h k _ _; cases h; exact ⟨k, fun h hh => by cases hh⟩
  | cons x xs ih =>
    intro U p q h k hn hx
    obtain ⟨m, ⟨m', h1, hid, h2⟩, h3⟩ := h
    obtain ⟨⟨a, b⟩, s⟩ := x
    have hxs : nn (sumU (xs.map fun x => keptU now x.1)) := nn_sum fun y hy => by
      obtain ⟨z, hz, rfl⟩ := List.mem_map.1 hy
      unfold keptU
      split
      · next hb => exact nn_itm (span_parts (hx z (List.mem_cons_of_mem _ hz) hb).span).2.2.2
      · exact nn_no
    have k' : Held vs (addU (addU U (sumU (xs.map fun x => keptU now x.1))) (keptU now (a, b))) p := k.eqU (by
      show addU U (addU (keptU now (a, b)) (sumU (xs.map fun x => keptU now x.1))) = _
      rw [addU_assoc, addU_comm (keptU now (a, b))])
    have km : Held vs (addU U (sumU (xs.map fun x => keptU now x.1))) m' := by
      rcases h1 with ⟨hb, rfl⟩ | ⟨hb, r, hg, hl⟩
      · have hb' : b = false := hb
        subst hb'
        exact k'.eqU (by simp [keptU, addU_no])
      · have hb' : b = true := hb
        subst hb'
        have ho := hx _ (List.mem_cons_self ..) rfl
        exact (held_gave (k'.eqU (by simp [keptU])) (nn_add hn hxs) ho.gang ho.span hl hg).2
    obtain ⟨k2, s2⟩ := found_slot hnow hid h2 km
    have hs2 : nn (slotU (a, s)) := by
      unfold slotU
      split
      · next hge =>
        rcases s2.2 with ⟨c, _⟩ | ⟨_, _, _, _, _, c⟩
        · have h1 : 0 ≤ s.start := hge
          have h2 : s.start = -1 := c
          omega
        · exact nn_itm (span_parts c).2.2.2
      · exact nn_no
    obtain ⟨k3, s3⟩ := ih h3 (k2.eqU (by rw [addU_assoc, addU_comm _ (slotU (a, s)), ← addU_assoc])) (nn_add hn hs2) (fun y hy => hx y (List.mem_cons_of_mem _ hy))
    refine ⟨k3.eqU (by rw [addU_assoc]; rfl), fun y hy => ?_⟩
    rcases List.mem_cons.1 hy with rfl | hy
    · exact s2
    · exact s3 y hy
end Go.Proofs.Ytpjajiambbobhaa

/- What a plan's slots use, one by one. Plain theorems: no condition. -/
namespace Go.Proofs.Ytpjajiambbobhaa
open Go.RowKit

theorem leq_addU {a b : Used} (hb : nn b) {i : Nat} {u : Int} {c : V4} (h : (addU a b i u).leq c) : (a i u).leq c := leq_add h (hb i u)
def slotsU (l : List (Ask × Slot)) : Used := sumU (l.map slotU)
theorem slotsU_app (l m : List (Ask × Slot)) : slotsU (l ++ m) = addU (slotsU l) (slotsU m) := by simp [slotsU, sumU_app]
theorem slotsU_one (x : Ask × Slot) : slotsU [x] = slotU x := by simp [slotsU, sumU, addU_no]
theorem slotsU_take (l : List (Ask × Slot)) (k : Nat) : slotsU l = addU (slotsU (l.take k)) (slotsU (l.drop k)) := by rw [← slotsU_app, List.take_append_drop]
theorem holdsU_app (now : Int) (l m : List Hold) : holdsU now (l ++ m) = addU (holdsU now l) (holdsU now m) := by simp [holdsU, sumU_app]
theorem holdsU_one (now : Int) (x : Hold) : holdsU now [x] = holdU now x := by simp [holdsU, sumU, addU_no]
theorem holdsU_take (now : Int) (l : List Hold) (k : Nat) : holdsU now l = addU (holdsU now (l.take k)) (holdsU now (l.drop k)) := by rw [← holdsU_app, List.take_append_drop]
theorem nn_slot {vs : List V4} {now : Int} {bs : List Bool} {a : Ask} {s : Slot} (h : SlotOk vs now bs a s) : nn (slotU (a, s)) := by
  unfold slotU
  split
  · next hge =>
    rcases h.2 with ⟨c, _⟩ | ⟨_, _, _, _, _, c⟩
    · have : (a, s).2.start = s.start := rfl
      omega
    · exact nn_itm (span_parts c).2.2.2
  · exact nn_no
theorem nn_slots {vs : List V4} {now : Int} {bs : List Bool} {l : List (Ask × Slot)} (h : ∀ x, x ∈ l → SlotOk vs now bs x.1 x.2) : nn (slotsU l) := nn_sum fun x hx => by
  obtain ⟨y, hy, rfl⟩ := List.mem_map.1 hx
  exact nn_slot (h y hy)
theorem hold_step {vs : List V4} {now : Int} {hs : List Hold} {q q' : List Nd} {k : Nat} {h : Hold} {r : Int} (hx : hs[k]? = some h) (hg : ∀ h, h ∈ hs → Gang vs.length h.gzs ∧ spanL now (holdEnd now h) h.v = true)
    (hle : ∀ i, i < vs.length → ∀ u, 0 ≤ u → u < 1099511627776 → (holdsU now hs i u).leq (vv vs i)) (hk : Held vs (holdsU now (hs.take k)) q) (ht : TookG q h.gzs now (holdEnd now h) h.v r q') (hl : Like q q') :
    r = 0 ∧ Held vs (holdsU now (hs.take (k + 1))) q' := by
  obtain ⟨h1, h2⟩ := hg h (List.mem_of_getElem? hx)
  have e : holdsU now (hs.take (k + 1)) = addU (holdsU now (hs.take k)) (itm h.gzs now (holdEnd now h) h.v) := by rw [take_snoc hx, holdsU_app, holdsU_one]; rfl
  have hr := took_yes hk h1 h2 (fun i hi u a b => by
    have := hle i hi u a b
    rw [holdsU_take now hs (k + 1), e] at this
    exact leq_addU (nn_holds (vs := vs) fun h hh => hg h (List.mem_of_mem_drop hh)) this) ht
  subst hr
  exact ⟨rfl, (held_took hk ⟨ht, hl⟩).1.eqU e.symm⟩
theorem slot_step {vs : List V4} {now : Int} {bs : List Bool} {l : List (Ask × Slot)} {U : Used} {q q' : List Nd} {k : Nat} {a : Ask} {s : Slot} {r : Int} (hx : l[k]? = some (a, s)) (hok : ∀ x, x ∈ l → SlotOk vs now bs x.1 x.2) (h0 : 0 ≤ s.start)
    (hle : ∀ i, i < vs.length → ∀ u, 0 ≤ u → u < 1099511627776 → (addU U (slotsU l) i u).leq (vv vs i)) (hk : Held vs (addU U (slotsU (l.take k))) q) (ht : TookG q s.gzs s.start (s.start + a.ticks) a.v r q') (hl : Like q q') :
    r = 0 ∧ Held vs (addU U (slotsU (l.take (k + 1)))) q' := by
  rcases (hok _ (List.mem_of_getElem? hx)).2 with ⟨c, _⟩ | ⟨_, _, _, _, h1, h2⟩
  · have : (a, s).2.start = s.start := rfl
    omega
  have e : addU U (slotsU (l.take (k + 1))) = addU (addU U (slotsU (l.take k))) (itm s.gzs s.start (s.start + a.ticks) a.v) := by
    rw [take_snoc hx, slotsU_app, slotsU_one, addU_assoc]
    have : 0 ≤ (a, s).2.start := h0
    simp only [slotU, if_pos this]
  have hr := took_yes hk h1 h2 (fun i hi u a b => by
    have := hle i hi u a b
    rw [slotsU_take l (k + 1), ← addU_assoc, e] at this
    exact leq_addU (nn_slots fun x hh => hok x (List.mem_of_mem_drop hh)) this) ht
  subst hr
  exact ⟨rfl, (held_took hk ⟨ht, hl⟩).1.eqU e.symm⟩
theorem slot_skip {vs : List V4} {l : List (Ask × Slot)} {U : Used} {q : List Nd} {k : Nat} {a : Ask} {s : Slot} (hx : l[k]? = some (a, s)) (h0 : ¬ 0 ≤ s.start) (hk : Held vs (addU U (slotsU (l.take k))) q) : Held vs (addU U (slotsU (l.take (k + 1)))) q :=
  hk.eqU (by
    rw [take_snoc hx, slotsU_app, slotsU_one]
    have : ¬ 0 ≤ (a, s).2.start := h0
    simp only [slotU, if_neg this, addU_no])

theorem chain_split {α β : Type} {R : α → β → β → Prop} {l r : List α} {x : α} {p q : β} (h : Chain R (l ++ x :: r) p q) : ∃ m m', Chain R l p m ∧ R x m m' ∧ Chain R r m' q := by
  obtain ⟨m, h1, m', h2, h3⟩ := chain_app.1 h
  exact ⟨m, m', h1, h2, h3⟩
def keptsU (now : Int) (l : List (Ask × Bool)) : Used := sumU (l.map (keptU now))
theorem nn_kepts {vs : List V4} {now : Int} {bs : List Bool} {l : List (Ask × Bool)} (h : ∀ x, x ∈ l → x.2 = true → KeptOk vs now bs x.1) : nn (keptsU now l) := nn_sum fun y hy => by
  obtain ⟨z, hz, rfl⟩ := List.mem_map.1 hy
  unfold keptU
  split
  · next hb => exact nn_itm (span_parts (h z hz hb).span).2.2.2
  · exact nn_no
/-- each round: beside what else is used, a slot is found -/
theorem round_at {now : Int} {bs : List Bool} {vs : List V4} {l r : List ((Ask × Bool) × Slot)} {x : (Ask × Bool) × Slot} {U : Used} {p q : List Nd} (hnow : 0 ≤ now) (hc : Chain (RoundR now bs) (l ++ x :: r) p q)
    (k : Held vs (addU U (keptsU now ((l ++ x :: r).map Prod.fst))) p) (hn : nn U) (hk : ∀ y, y ∈ l ++ x :: r → y.1.2 = true → KeptOk vs now bs y.1.1) :
    ∃ mid m q', Held vs (addU (addU (addU U (keptsU now (r.map Prod.fst))) (sumU (l.map pairU))) (keptU now x.1)) mid ∧ Held vs (addU (addU U (keptsU now (r.map Prod.fst))) (sumU (l.map pairU))) m ∧ x.2.id = x.1.1.id ∧ FoundR now bs x.1.1 x.2.start x.2.gzs m q' := by
  obtain ⟨mid, mid', h1, h2, _⟩ := chain_split hc
  have hnr : nn (keptsU now (r.map Prod.fst)) := nn_kepts (bs := bs) (vs := vs) fun y hy hb => by
    obtain ⟨z, hz, rfl⟩ := List.mem_map.1 hy
    exact hk z (List.mem_append_right _ (List.mem_cons_of_mem _ hz)) hb
  have hnx : nn (keptU now x.1) := by
    unfold keptU
    split
    · next hb => exact nn_itm (span_parts (hk x (List.mem_append_right _ (List.mem_cons_self ..)) hb).span).2.2.2
    · exact nn_no
  have e : addU U (keptsU now ((l ++ x :: r).map Prod.fst)) = addU (addU (addU U (keptsU now (r.map Prod.fst))) (keptU now x.1)) (sumU (l.map fun x => keptU now x.1)) := by
    simp only [keptsU, List.map_append, List.map_cons, List.map_map, sumU_app]
    show addU U (addU (sumU (l.map (keptU now ∘ Prod.fst))) (addU (keptU now x.1) (sumU (r.map (keptU now ∘ Prod.fst))))) = addU (addU (addU U (sumU (r.map (keptU now ∘ Prod.fst)))) (keptU now x.1)) (sumU (l.map (keptU now ∘ Prod.fst)))
    rw [addU_comm (sumU (l.map _)), ← addU_assoc, addU_comm (keptU now x.1), ← addU_assoc]
  obtain ⟨k1, s1⟩ := rounds_held hnow h1 (k.eqU e) (nn_add (nn_add hn hnr) hnx) (fun y hy => hk y (List.mem_append_left _ hy))
  have hsl : nn (sumU (l.map pairU)) := nn_sum fun y hy => by
    obtain ⟨z, hz, rfl⟩ := List.mem_map.1 hy
    exact nn_slot (s1 z hz)
  have k2 : Held vs (addU (addU (addU U (keptsU now (r.map Prod.fst))) (sumU (l.map pairU))) (keptU now x.1)) mid := k1.eqU (by rw [addU_assoc, addU_comm (keptU now x.1), ← addU_assoc])
  obtain ⟨m, h3, hid, h4⟩ := h2
  refine ⟨mid, m, mid', k2, ?_, hid, h4⟩
  rcases h3 with ⟨hb, rfl⟩ | ⟨hb, r2, hg, hl⟩
  · exact k2.eqU (by simp [keptU, hb, addU_no])
  · have ho := hk x (List.mem_append_right _ (List.mem_cons_self ..)) hb
    exact (held_gave (k2.eqU (by simp [keptU, hb])) (nn_add (nn_add hn hnr) hsl) ho.gang ho.span hl hg).2

/-- what a pass gives -/
structure PassOk (vs : List V4) (now : Int) (bs : List Bool) (hs : List Hold) (asks : List Ask) (slots : List Slot) : Prop where
  lay : LayOk vs bs.length now
  holds : ∀ h, h ∈ hs → Gang vs.length h.gzs ∧ spanL now (holdEnd now h) h.v = true
  len : slots.length = asks.length
  slot : ∀ x, x ∈ asks.zip slots → SlotOk vs now bs x.1 x.2
  le : ∀ i, i < vs.length → ∀ u, 0 ≤ u → u < 1099511627776 → (addU (holdsU now hs) (slotsU (asks.zip slots)) i u).leq (vv vs i)
theorem zip_of_rd {asks : List Ask} {slots : List Slot} {st : List (Ask × Bool)} {rd : List ((Ask × Bool) × Slot)} (h1 : st.map Prod.fst = asks) (h2 : rd.map Prod.fst = st) (h3 : rd.map Prod.snd = slots) : asks.zip slots = rd.map fun x => (x.1.1, x.2) := by
  subst h3 h2 h1
  induction rd with
  | nil => rfl
  | cons x xs ih => simp at ih; simp [ih]
theorem pass_ok {vs : List V4} {now : Int} {bs : List Bool} {hs : List Hold} {asks : List Ask} {slots : List Slot} (hp : PassRel vs now bs hs asks slots) : PassOk vs now bs hs asks slots := by
  obtain ⟨ps, q1, q2, st, rd, hl, hk, hs1, hr, hs2, hs3⟩ := hp.go
  obtain ⟨hok, k0, hg⟩ := lay_held hl
  obtain ⟨k1, hk1⟩ := kept_chain hk k0
  have e : st.map (keptU now) = rd.map fun x => keptU now x.1 := by rw [← hs2]; simp [List.map_map, Function.comp_def]
  rw [e] at k1
  obtain ⟨k2, s2⟩ := rounds_held hok.lo hr k1 (nn_holds hg) (fun x hx hb => hk1 x.1 (by rw [← hs2]; exact List.mem_map.2 ⟨x, hx, rfl⟩) hb)
  have ez := zip_of_rd hs1 hs2 hs3
  have eu : sumU (rd.map pairU) = slotsU (asks.zip slots) := by rw [ez]; simp [slotsU, List.map_map, Function.comp_def]; rfl
  rw [eu] at k2
  refine ⟨hok, hg, by rw [← hs3, ← hs1, ← hs2]; simp, fun x hx => ?_, fun i hi u a b => k2.le (by rw [k2.len]; exact hi) a b⟩
  rw [ez] at hx
  obtain ⟨y, hy, rfl⟩ := List.mem_map.1 hx
  exact s2 y hy
/-- the last job's slot is found beside all others -/
theorem pass_last {vs : List V4} {now : Int} {bs : List Bool} {hs : List Hold} {asks : List Ask} {slots : List Slot} {k : Nat} {a : Ask} {s : Slot} (hp : PassRel vs now bs hs asks slots) (hk : k + 1 = asks.length) (ha : asks[k]? = some a) (hs' : slots[k]? = some s) :
    ∃ m q, Held vs (addU (holdsU now hs) (slotsU ((asks.zip slots).take k))) m ∧ FoundR now bs a s.start s.gzs m q := by
  obtain ⟨ps, q1, q2, st, rd, hl, hkc, hs1, hr, hs2, hs3⟩ := hp.go
  obtain ⟨hok, k0, hg⟩ := lay_held hl
  obtain ⟨k1, hk1⟩ := kept_chain hkc k0
  have hlen : rd.length = k + 1 := by rw [hk, ← hs1, ← hs2]; simp
  obtain ⟨x, hx⟩ : ∃ x, rd[k]? = some x := ⟨rd[k]'(by omega), List.getElem?_eq_getElem _⟩
  have hxa : x.1.1 = a := by
    have : (st.map Prod.fst)[k]? = some a := by rw [hs1]; exact ha
    rw [← hs2, List.getElem?_map, List.getElem?_map, hx] at this
    simpa using this
  have hxs : x.2 = s := by
    have : (rd.map Prod.snd)[k]? = some s := by rw [hs3]; exact hs'
    rw [List.getElem?_map, hx] at this
    simpa using this
  have hrd : rd = rd.take k ++ x :: [] := by
    rw [← take_snoc hx, List.take_of_length_le (by omega)]
  rw [hrd] at hr
  have e : addU (holdsU now hs) (sumU (st.map (keptU now))) = addU (holdsU now hs) (keptsU now ((rd.take k ++ x :: []).map Prod.fst)) := by rw [← hrd, hs2]; rfl
  obtain ⟨_, m, q', _, h1, _, h2⟩ := round_at hok.lo hr (k1.eqU e) (nn_holds hg) (fun y hy hb => hk1 y.1 (by rw [← hrd] at hy; rw [← hs2]; exact List.mem_map.2 ⟨y, hy, rfl⟩) hb)
  rw [hxa, hxs] at h2
  refine ⟨m, q', h1.eqU ?_, h2⟩
  have : addU (holdsU now hs) (keptsU now (([] : List ((Ask × Bool) × Slot)).map Prod.fst)) = holdsU now hs := addU_no _
  rw [this, zip_of_rd hs1 hs2 hs3, ← List.map_take]
  simp [slotsU, List.map_map, Function.comp_def]
  rfl
theorem found_no {ps : List Nd} {bs : List Bool} {now st : Int} {a : Ask} {zs : List Int} {m q : List Nd} {t : Int} {xs : List Nat} {is : Bool} (h : FoundR now bs a st zs m q) (hcan : a.can = true) (h' : FindRel ps (ints (plc bs a.pzs)) a.nodes a.v a.ticks now t xs is)
    (hlen : ps.length = m.length) (hs : SameL m ps) : (st < 0 → is = false) ∧ (0 ≤ st → is = true ∧ t = st ∧ ints xs = zs) := by
  rcases h with ⟨c, _⟩ | ⟨_, t', xs', is', hR, h1, h2⟩
  · rw [hcan] at c; cases c
  · obtain ⟨e1, e2, e3⟩ := hR.same h' (fun u => sel_same hlen hs u)
    subst e1 e2 e3
    cases is with
    | false =>
      obtain ⟨h3, _⟩ := h1 rfl
      exact ⟨fun _ => rfl, fun c => by omega⟩
    | true =>
      obtain ⟨h3, h4, _⟩ := h2 rfl
      have := hR.found.ge
      exact ⟨fun c => by omega, fun _ => ⟨rfl, h3.symm, h4.symm⟩⟩
end Go.Proofs.Ytpjajiambbobhaa

/- The document's first example of a plan: what it must tell. Plain theorems: no condition. -/
namespace Go.Proofs.Ytpjajiambbobhaa
open Go.RowKit

/-- a search finds at the first tick at which so many are free -/
theorem find_at {ps : List Nd} {zs : List Int} {many : Int} {v : V4} {ticks after t T : Int} {xs : List Nat} {is : Bool} (h : FindRel ps zs many v ticks after t xs is) (h1 : 1 ≤ many) (h2 : 1 ≤ ticks) (h3 : v.right = true)
    (hT : max after 0 ≤ T) (hT2 : T < 1099511627776) (hs : many ≤ (sel ps zs ticks v T).length) (hno : ∀ u, max after 0 ≤ u → u < T → ((sel ps zs ticks v u).length : Int) < many) :
    is = true ∧ t = T ∧ (xs.length : Int) = many ∧ ∃ r, sel ps zs ticks v T = xs ++ r := by
  unfold FindRel at h
  rw [if_pos ⟨h1, h2, h3⟩] at h
  rcases h with ⟨hb, ht0, ht1, hx, ⟨r, hr⟩, hmin⟩ | ⟨_, _, _, hn⟩
  · have hl : many ≤ (sel ps zs ticks v t).length := by rw [hr, List.length_append]; omega
    have : t = T := by
      rcases Int.lt_trichotomy t T with c | c | c
      · have := hno t ht0 c; omega
      · exact c
      · have := hmin T hT c; omega
    subst this
    exact ⟨hb, rfl, hx, r, hr⟩
  · have := hn T hT hT2; omega
def Idle (U : Used) (i : Nat) (x : Int) : Prop := (add4 (U i x) two4).leq two4
theorem idle_iff {U : Used} {i : Nat} {x : Int} : Idle U i x ↔ (U i x).leq V4.zero := by
  simp only [Idle, V4.leq, add4, V4.zero, two4]; omega
def Rests (U : Used) (i : Nat) (ticks u : Int) : Prop := u + ticks ≤ 1099511627776 ∧ ∀ x, u ≤ x → x < u + ticks → Idle U i x
theorem pick_awk {U : Used} {p : List Nd} (k : Held [two4, two4] U p) {i : Nat} (hi : i < 2) {ticks u : Int} (h0 : 0 ≤ u) (h1 : 1 ≤ ticks) : pick p [0, 1] ticks two4 u i = true ↔ Rests U i ticks u := by
  have hlen : p.length = 2 := k.len
  have hv : vv [two4, two4] i = two4 := by
    have : i = 0 ∨ i = 1 := by omega
    rcases this with rfl | rfl <;> rfl
  have ha : Among [0, 1] ([0, 1] : List Int).length i := by
    have : i = 0 ∨ i = 1 := by omega
    rcases this with rfl | rfl
    · exact ⟨0, by decide, rfl⟩
    · exact ⟨1, by decide, rfl⟩
  have := held_ok k (i := i) (by omega) (v := two4) h0 h1
  rw [hv] at this
  simp only [pick, Bool.and_eq_true, decide_eq_true_eq]
  unfold Rests Idle
  rw [← this]
  exact ⟨fun h => h.2, fun h => ⟨⟨by omega, ha⟩, h⟩⟩
structure AskIs (a : Ask) (nodes ticks : Int) : Prop where
  places : a.pzs = [0, 1]
  nodes : a.nodes = nodes
  v : a.v = two4
  ticks : a.ticks = ticks
  start : a.start = -1
theorem plc_awk : ints (plc [true, true] [0, 1]) = [0, 1] := by decide
theorem can_awk {a : Ask} {n t : Int} (h : AskIs a n t) (h1 : 0 < n) (h2 : 0 < t) : a.can = true := by
  simp only [Ask.can, h.nodes, h.ticks, h.v, Bool.and_eq_true, decide_eq_true_eq]
  exact ⟨⟨h1, h2⟩, by decide⟩
/-- one job of the example -/
theorem found_awk {U : Used} {p q : List Nd} {a : Ask} {n t st T : Int} {zs : List Int} {ys : List Nat} (k : Held [two4, two4] U p) (h : FoundR 0 [true, true] a st zs p q) (ha : AskIs a n t) (h1 : 1 ≤ n) (h2 : 1 ≤ t)
    (hT : 0 ≤ T) (hT2 : T < 1099511627776) (hs : sel p [0, 1] t two4 T = ys) (hn : n ≤ ys.length) (hno : ∀ u, 0 ≤ u → u < T → ((sel p [0, 1] t two4 u).length : Int) < n) :
    st = T ∧ zs = ints (ys.take n.toNat) ∧ Held [two4, two4] (addU U (itm zs T (T + t) two4)) q := by
  rcases h with ⟨c, _⟩ | ⟨_, t', xs, is, hR, _, h4⟩
  · rw [can_awk ha (by omega) (by omega)] at c; cases c
  · have hR' := hR
    rw [ha.places, plc_awk, ha.nodes, ha.v, ha.ticks] at hR
    obtain ⟨hi, ht, hx, r, hr⟩ := find_at hR h1 h2 (by decide) (by omega) hT2 (by rw [hs]; exact hn) (fun u a b => hno u (by omega) b)
    subst hi
    obtain ⟨h5, h6, r2, h7⟩ := h4 rfl
    have hr0 : r2 = 0 := (hR'.found.take k.loose h7.1).1
    subst hr0
    rw [ha.v, ha.ticks, ht] at h7
    refine ⟨h5.trans ht, ?_, ?_⟩
    · rw [h6, ← hs, hr, List.take_left' (by omega)]
    · rw [h6]; exact (held_took k h7).1
theorem two_idx {i : Nat} (h : i < 2) : i = 0 ∨ i = 1 := by omega
theorem sel_awk {U : Used} {p : List Nd} (k : Held [two4, two4] U p) (t u : Int) : sel p [0, 1] t two4 u = (if pick p [0, 1] t two4 u 0 = true then [0] else []) ++ (if pick p [0, 1] t two4 u 1 = true then [1] else []) := sel_two k.len _ _ _ _
theorem itm_at {zs : List Int} {fr tt : Int} {i : Nat} {u : Int} : ((itm zs fr tt two4) i u).leq V4.zero ↔ ¬ (Among zs zs.length i ∧ fr ≤ u ∧ u < tt) := by
  unfold itm
  split
  · next h => exact ⟨fun c => by simp [V4.leq, two4, V4.zero] at c, fun c => absurd h c⟩
  · next h => exact ⟨fun _ => h, fun _ => by simp [V4.leq, V4.zero]⟩
theorem nn_two {zs : List Int} {fr tt : Int} : nn (itm zs fr tt two4) := nn_itm (by decide)
theorem add_at {U W : Used} (hU : nn U) (hW : nn W) {i : Nat} {u : Int} : (addU U W i u).leq V4.zero ↔ (U i u).leq V4.zero ∧ (W i u).leq V4.zero := by
  have a := zero_leq.1 (hU i u); have b := zero_leq.1 (hW i u)
  simp only [addU, add4, V4.leq, V4.zero]; omega
theorem three_of {α : Type} {l : List α} (h : l.length = 3) : ∃ a b c, l = [a, b, c] := by
  match l, h with
  | [a, b, c], _ => exact ⟨a, b, c, rfl⟩
theorem among_one {n i : Nat} : Among [(n : Int)] [(n : Int)].length i ↔ i = n := by
  constructor
  · rintro ⟨j, hj, e⟩
    have hj' : j = 0 := by simpa using hj
    subst hj'
    simp [zi] at e
    omega
  · rintro rfl
    exact ⟨0, Nat.one_pos, rfl⟩
theorem gang_zero : Gang 2 [0] := gang_one
set_option maxHeartbeats 3200000 in
theorem awk_pass {h : Hold} {a1 a2 a3 : Ask} {slots : List Slot} (hp : PassRel [two4, two4] 0 [true, true] [h] [a1, a2, a3] slots) (hz : h.gzs = [0]) (hv : h.v = two4) (ht : h.till = 4) (e1 : AskIs a1 2 3) (e2 : AskIs a2 1 4) (e3 : AskIs a3 1 5) :
    ∃ s1 s2 s3, slots = [s1, s2, s3] ∧ s1.start = 4 ∧ s2.start = 0 ∧ s2.gzs = [1] ∧ s3.start = 7 ∧ s3.gzs = [0] := by
  obtain ⟨ps, q1, q2, st, rd, hl, hk, hs1, hr, hs2, hs3⟩ := hp.go
  obtain ⟨_, k0, _⟩ := lay_held hl
  have hU : holdsU 0 [h] = itm [0] 0 4 two4 := by
    show addU (holdU 0 h) noU = _
    rw [addU_no]; unfold holdU holdEnd; rw [hz, hv, ht]; rfl
  rw [hU] at k0
  obtain ⟨x1, x2, x3, rfl⟩ := three_of (l := st) (by have := congrArg List.length hs1; simpa using this)
  obtain ⟨b1, c1⟩ := x1; obtain ⟨b2, c2⟩ := x2; obtain ⟨b3, c3⟩ := x3
  simp at hs1
  obtain ⟨rfl, rfl, rfl⟩ := hs1
  obtain ⟨m1, g1, m2, g2, m3, g3, g4⟩ := hk
  have hq : ∀ {a : Ask} {b : Bool} {p q : List Nd} {n t : Int}, AskIs a n t → KeptR 0 [true, true] (a, b) p q → q = p ∧ b = false := fun ha hh => by
    have hst := ha.start
    rcases hh with ⟨_, c, d⟩ | ⟨c, _⟩ | ⟨c, _⟩
    · exact ⟨d, c⟩
    · exact absurd c (by show ¬ 0 ≤ _; rw [hst]; decide)
    · exact absurd c (by show ¬ 0 ≤ _; rw [hst]; decide)
  obtain ⟨rfl, rfl⟩ := hq e1 g1
  obtain ⟨rfl, rfl⟩ := hq e2 g2
  obtain ⟨rfl, rfl⟩ := hq e3 g3
  cases g4
  obtain ⟨y1, y2, y3, rfl⟩ := three_of (l := rd) (by have := congrArg List.length hs2; simpa using this)
  obtain ⟨x1, s1⟩ := y1; obtain ⟨x2, s2⟩ := y2; obtain ⟨x3, s3⟩ := y3
  simp at hs2
  obtain ⟨rfl, rfl, rfl⟩ := hs2
  obtain ⟨n1, f1, n2, f2, n3, f3, f4⟩ := hr
  have hm : ∀ {a : Ask} {s : Slot} {p q : List Nd}, RoundR 0 [true, true] ((a, false), s) p q → FoundR 0 [true, true] a s.start s.gzs p q := fun hh => by
    obtain ⟨m, c, _, d⟩ := hh
    rcases c with ⟨_, rfl⟩ | ⟨c, _⟩
    · exact d
    · cases c
  have ia : ∀ {i : Nat}, Among [0] ([0] : List Int).length i ↔ i = 0 := fun {i} => among_one
  have ib : ∀ {i : Nat}, Among [1] ([1] : List Int).length i ↔ i = 1 := fun {i} => among_one
  have ic : ∀ {i : Nat}, i < 2 → Among [0, 1] ([0, 1] : List Int).length i := fun {i} hi => by
    rcases two_idx hi with rfl | rfl
    · exact ⟨0, by decide, rfl⟩
    · exact ⟨1, by decide, rfl⟩
  have r0 : ∀ u, 0 ≤ u → (pick q1 [0, 1] 3 two4 u 0 = true ↔ 4 ≤ u ∧ u + 3 ≤ 1099511627776) := fun u hu => by
    rw [pick_awk k0 (by decide) hu (by decide)]
    unfold Rests
    simp only [idle_iff, itm_at, ia]
    exact ⟨fun hh => ⟨by have := hh.2 u (by omega) (by omega); simp at this; omega, hh.1⟩, fun hh => ⟨hh.2, fun x a b c => by omega⟩⟩
  have r1 : ∀ u, 0 ≤ u → (pick q1 [0, 1] 3 two4 u 1 = true ↔ u + 3 ≤ 1099511627776) := fun u hu => by
    rw [pick_awk k0 (by decide) hu (by decide)]
    unfold Rests
    simp only [idle_iff, itm_at, ia]
    exact ⟨fun hh => hh.1, fun hh => ⟨hh, fun x a b c => by omega⟩⟩
  obtain ⟨t1, z1, k1⟩ := found_awk k0 (hm f1) e1 (by decide) (by decide) (T := 4) (ys := [0, 1]) (by decide) (by decide)
    (by rw [sel_awk k0, if_pos ((r0 4 (by omega)).2 (by omega)), if_pos ((r1 4 (by omega)).2 (by omega))]; rfl) (by decide)
    (fun u a b => by
      rw [sel_awk k0, if_neg (fun c => by have := (r0 u a).1 c; omega)]
      split <;> simp)
  have z1' : s1.gzs = [0, 1] := z1
  rw [z1'] at k1
  have w1 : ∀ {i : Nat} {u : Int}, Idle (addU (itm [0] 0 4 two4) (itm [0, 1] 4 (4 + 3) two4)) i u ↔ ¬ (i = 0 ∧ 0 ≤ u ∧ u < 4) ∧ ¬ (Among [0, 1] ([0, 1] : List Int).length i ∧ 4 ≤ u ∧ u < 4 + 3) := by
    intro i u; rw [idle_iff, add_at nn_two nn_two, itm_at, itm_at, ia]
  have r3 : ¬ pick n1 [0, 1] 4 two4 0 0 = true := fun c => by
    have := ((pick_awk k1 (by decide) (by decide) (by decide)).1 c).2 0 (by decide) (by decide)
    exact (w1.1 this).1 ⟨rfl, by decide, by decide⟩
  have r4 : pick n1 [0, 1] 4 two4 0 1 = true := (pick_awk k1 (by decide) (by decide) (by decide)).2 ⟨by decide, fun x a b => w1.2 ⟨fun c => by omega, fun c => by omega⟩⟩
  obtain ⟨t2, z2, k2⟩ := found_awk k1 (hm f2) e2 (by decide) (by decide) (T := 0) (ys := [1]) (by decide) (by decide)
    (by rw [sel_awk k1, if_neg r3, if_pos r4]; rfl) (by decide) (fun u a b => by omega)
  have z2' : s2.gzs = [1] := z2
  rw [z2'] at k2
  have w2 : ∀ {i : Nat} {u : Int}, Idle (addU (addU (itm [0] 0 4 two4) (itm [0, 1] 4 (4 + 3) two4)) (itm [1] 0 (0 + 4) two4)) i u ↔ (¬ (i = 0 ∧ 0 ≤ u ∧ u < 4) ∧ ¬ (Among [0, 1] ([0, 1] : List Int).length i ∧ 4 ≤ u ∧ u < 4 + 3)) ∧ ¬ (i = 1 ∧ 0 ≤ u ∧ u < 0 + 4) := by
    intro i u; rw [idle_iff, add_at (nn_add nn_two nn_two) nn_two, add_at nn_two nn_two, itm_at, itm_at, itm_at, ia, ib]
  have r5 : ∀ i, i < 2 → ∀ u, 0 ≤ u → (pick n2 [0, 1] 5 two4 u i = true ↔ 7 ≤ u ∧ u + 5 ≤ 1099511627776) := fun i hi u hu => by
    rw [pick_awk k2 hi hu (by decide)]
    unfold Rests
    simp only [w2]
    have hic := ic hi
    refine ⟨fun hh => ⟨?_, hh.1⟩, fun hh => ⟨hh.2, fun x a b => ⟨⟨fun c => by omega, fun c => by omega⟩, fun c => by omega⟩⟩⟩
    have h1 := hh.2 u (by omega) (by omega)
    apply Classical.byContradiction
    intro c
    by_cases c4 : 4 ≤ u
    · exact h1.1.2 ⟨hic, c4, by omega⟩
    · rcases two_idx hi with rfl | rfl
      · exact h1.1.1 ⟨rfl, hu, by omega⟩
      · exact h1.2 ⟨rfl, hu, by omega⟩
  obtain ⟨t3, z3, k3⟩ := found_awk k2 (hm f3) e3 (by decide) (by decide) (T := 7) (ys := [0, 1]) (by decide) (by decide)
    (by rw [sel_awk k2, if_pos ((r5 0 (by decide) 7 (by omega)).2 (by omega)), if_pos ((r5 1 (by decide) 7 (by omega)).2 (by omega))]; rfl) (by decide)
    (fun u a b => by
      rw [sel_awk k2, if_neg (fun c => by have := (r5 0 (by decide) u a).1 c; omega), if_neg (fun c => by have := (r5 1 (by decide) u a).1 c; omega)]
      simp)
  exact ⟨s1, s2, s3, hs3.symm, t1, t2, z2', t3, z3⟩
theorem awk_lay {h : Hold} {r : Int} {q : List Nd} (hl : LayRel [two4, two4] 2 0 [h] r q) (hz : h.gzs = [0]) (hv : h.v = two4) (ht : h.till = 4) : r = 0 := by
  rcases hl with ⟨c, _⟩ | ⟨_, ps0, hf, ⟨c, _⟩ | ⟨c, k, x, m, q', hx, hc, hT⟩⟩
  · refine absurd ⟨by decide, fun i hi => ?_, by decide, by decide, by decide⟩ c
    rcases two_idx hi with rfl | rfl <;> decide
  · exact c
  · have hk : k = 0 := by
      have := (List.getElem?_eq_some_iff.1 hx).1
      simpa using this
    subst hk
    cases hc
    have : h = x := by simpa using hx
    subst this
    have k0 := held_fresh hf
    refine took_yes k0 (zs := h.gzs) (fr := 0) (tt := holdEnd 0 h) (v := h.v) ?_ ?_ ?_ hT.1
    · rw [hz]; exact gang_zero
    · unfold holdEnd; rw [hv, ht]; decide
    · intro i hi u h0 h1
      have hvv : vv [two4, two4] i = two4 := by rcases two_idx hi with rfl | rfl <;> rfl
      rw [hvv, no_addU]
      unfold itm
      split
      · rw [hv]; exact V4.leq.refl _
      · simp [V4.leq, V4.zero, two4]
end Go.Proofs.Ytpjajiambbobhaa

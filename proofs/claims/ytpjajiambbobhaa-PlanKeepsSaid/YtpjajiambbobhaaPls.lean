/- Nobody is put off: plain laws. No condition. -/
import Derived.Test.YtpjajiambbobhaaPlq
namespace Go.Proofs.Ytpjajiambbobhaa
open Go.RowKit

def leU (a b : Used) : Prop := ∀ i u, (a i u).leq (b i u)
theorem leU.refl (a : Used) : leU a a := fun _ _ => V4.leq.refl _
theorem leU.trans {a b c : Used} (h : leU a b) (k : leU b c) : leU a c := fun i u => (h i u).trans (k i u)
theorem leU_add {a b c d : Used} (h : leU a b) (k : leU c d) : leU (addU a c) (addU b d) := fun i u => by
  have h1 := h i u; have h2 := k i u
  simp [V4.leq, addU, add4] at *; omega
theorem leU_left {a b : Used} (h : nn b) : leU a (addU a b) := fun i u => by
  have := zero_leq.1 (h i u)
  simp [V4.leq, addU, add4]; omega
theorem leU_no {a : Used} (h : nn a) : leU noU a := fun i u => h i u
theorem sumU_perm {xs ys : List Used} (h : xs.Perm ys) : sumU xs = sumU ys := by
  induction h with
  | nil => rfl
  | cons x _ ih => show addU x (sumU _) = addU x (sumU _); rw [ih]
  | swap x y l => show addU y (addU x (sumU l)) = addU x (addU y (sumU l)); rw [← addU_assoc, addU_comm y x, addU_assoc]
  | trans _ _ h1 h2 => exact h1.trans h2

def Ask.but (a : Ask) (s : Slot) : Ask := { a with start := s.start, go := s.go, gn := s.gn, gc := s.gc, gzs := s.gzs }
def againL (asks : List Ask) (slots : List Slot) : List Ask := (asks.zip slots).map fun x => x.1.but x.2
def wantU (y : Ask) : Used := if 0 ≤ y.start then itm y.gzs y.start (y.start + y.ticks) y.v else noU
def wantsU (l : List Ask) : Used := sumU (l.map wantU)
theorem wantsU_app (l m : List Ask) : wantsU (l ++ m) = addU (wantsU l) (wantsU m) := by simp [wantsU, sumU_app]
theorem wants_again (asks : List Ask) (slots : List Slot) : wantsU (againL asks slots) = slotsU (asks.zip slots) := by
  simp only [wantsU, againL, slotsU, List.map_map]
  rfl
def WantOk (vs : List V4) (bs : List Bool) (least : Int) (y : Ask) : Prop :=
  y.start < 0 ∨ (y.can = true ∧ least ≤ y.start ∧ y.start < 1099511627776 ∧ OfAsk bs y y.gzs ∧ Gang vs.length y.gzs ∧ spanL y.start (y.start + y.ticks) y.v = true)
theorem want_of {vs : List V4} {now least : Int} {bs : List Bool} {a : Ask} {s : Slot} (h : SlotOk vs now bs a s) (hl : 0 ≤ s.start → least ≤ s.start) (hnow : 0 ≤ now) : WantOk vs bs least (a.but s) := by
  rcases h.2 with ⟨h1, _⟩ | ⟨h1, h2, h3, h4, h5, h6⟩
  · left; show s.start < 0; omega
  · right; exact ⟨h1, hl (by omega), h3, ⟨h4.inn, h4.rise, h4.len⟩, h5, h6⟩
theorem nn_want {vs : List V4} {bs : List Bool} {least : Int} {y : Ask} (h : WantOk vs bs least y) : nn (wantU y) := by
  unfold wantU
  split
  · next hge =>
    rcases h with c | ⟨_, _, _, _, _, c⟩
    · omega
    · exact nn_itm (span_parts c).2.2.2
  · exact nn_no
theorem nn_wants {vs : List V4} {bs : List Bool} {least : Int} {l : List Ask} (h : ∀ y, y ∈ l → WantOk vs bs least y) : nn (wantsU l) := nn_sum fun x hx => by
  obtain ⟨y, hy, rfl⟩ := List.mem_map.1 hx
  exact nn_want (h y hy)

/-- holds that end sooner, or are gone -/
def EndOf (now least : Int) (h h' : Hold) : Prop := h'.gzs = h.gzs ∧ h'.v = h.v ∧ h'.till ≤ h.till ∧ least < holdEnd now h
def EndsOne (now least : Int) (h : Hold) (o : List Hold) : Prop := o = [] ∨ ∃ h', o = [h'] ∧ EndOf now least h h'
def Ends (now least : Int) : List Hold → List Hold → Prop
  | [], l => l = []
  | h :: hs, l => ∃ o r, l = o ++ r ∧ EndsOne now least h o ∧ Ends now least hs r
theorem ends_snoc {now least : Int} {hs l : List Hold} {h : Hold} {o : List Hold} (k : Ends now least hs l) (ho : EndsOne now least h o) : Ends now least (hs ++ [h]) (l ++ o) := by
  induction hs generalizing l with
  | nil => cases k; exact ⟨o, [], by simp, ho, rfl⟩
  | cons x xs ih =>
    obtain ⟨p, r, rfl, hp, hr⟩ := k
    exact ⟨p, r ++ o, by simp, hp, ih hr⟩
theorem ends_le {vs : List V4} {now least : Int} {hs l : List Hold} (hn0 : 0 ≤ now) (hn : now ≤ least) (k : Ends now least hs l) (hg : ∀ h, h ∈ hs → Gang vs.length h.gzs ∧ spanL now (holdEnd now h) h.v = true) :
    (∀ h, h ∈ l → Gang vs.length h.gzs ∧ spanL least (holdEnd least h) h.v = true) ∧ leU (holdsU least l) (holdsU now hs) := by
  induction hs generalizing l with
  | nil => cases k; exact ⟨fun h hh => (by cases hh), leU.refl _⟩
  | cons x xs ih =>
    obtain ⟨o, r, rfl, ho, hr⟩ := k
    obtain ⟨i1, i2⟩ := ih hr (fun h hh => hg h (List.mem_cons_of_mem _ hh))
    obtain ⟨g1, g2⟩ := hg x (List.mem_cons_self ..)
    obtain ⟨s1, s2, s3, s4⟩ := span_parts g2
    have e : holdsU now (x :: xs) = addU (holdU now x) (holdsU now xs) := rfl
    rcases ho with rfl | ⟨h', rfl, e1, e2, e3, e4⟩
    · exact ⟨i1, by rw [e, List.nil_append]; exact i2.trans (by rw [addU_comm]; exact leU_left (nn_itm s4))⟩
    · have hT : holdEnd least h' ≤ holdEnd now x := by unfold holdEnd at *; omega
      have hT2 : least < holdEnd least h' := by unfold holdEnd; omega
      refine ⟨fun h hh => ?_, ?_⟩
      · rcases List.mem_append.1 hh with hh | hh
        · have : h = h' := by simpa using hh
          subst this
          rw [e1, e2]
          refine ⟨g1, ?_⟩
          simp only [spanL, Bool.and_eq_true, decide_eq_true_eq]
          exact ⟨⟨⟨by omega, hT2⟩, by omega⟩, s4⟩
        · exact i1 h hh
      · have e' : holdsU least ([h'] ++ r) = addU (holdU least h') (holdsU least r) := rfl
        rw [e, e']
        refine leU_add (fun i u => ?_) i2
        unfold holdU itm
        rw [e1, e2]
        by_cases c : Among x.gzs x.gzs.length i ∧ least ≤ u ∧ u < holdEnd least h'
        · rw [if_pos c, if_pos ⟨c.1, by omega, by omega⟩]; exact V4.leq.refl _
        · rw [if_neg c]
          split
          · exact right_zero s4
          · exact V4.leq.refl _
theorem lay_yes {vs : List V4} {un : Nat} {now : Int} {hs : List Hold} {r : Int} {q : List Nd} (hok : LayOk vs un now) (hg : ∀ h, h ∈ hs → Gang vs.length h.gzs ∧ spanL now (holdEnd now h) h.v = true)
    (hle : ∀ i, i < vs.length → ∀ u, 0 ≤ u → u < 1099511627776 → (holdsU now hs i u).leq (vv vs i)) (h : LayRel vs un now hs r q) : r = 0 := by
  rcases h with ⟨c, _⟩ | ⟨_, ps, hf, ⟨e, _⟩ | ⟨e, k, x, m, q', hx, hc, hT⟩⟩
  · exact absurd hok c
  · exact e
  · have hm := (chain_held hc (held_fresh hf)).1.eqU (no_addU _)
    exact (hold_step hx hg hle hm hT.1 hT.2).1

/-- what one has, one finds, no later -/
theorem found_le {vs : List V4} {bs : List Bool} {V : Used} {m : List Nd} {y : Ask} {zs : List Int} {T after t : Int} {xs : List Nat} {is : Bool} (k : Held vs V m)
    (hle : ∀ i, i < vs.length → ∀ u, 0 ≤ u → u < 1099511627776 → (addU V (itm zs T (T + y.ticks) y.v) i u).leq (vv vs i)) (ho : OfAsk bs y zs) (hc : y.can = true) (hg : Gang vs.length zs) (hs : spanL T (T + y.ticks) y.v = true)
    (h16 : vs.length ≤ 16) (hT : max after 0 ≤ T) (hT2 : T < 1099511627776) (h : FindRel m (ints (plc bs y.pzs)) y.nodes y.v y.ticks after t xs is) : is = true ∧ t ≤ T := by
  obtain ⟨c1, c2, c3⟩ := can_parts hc
  obtain ⟨s1, s2, s3, s4⟩ := span_parts hs
  have hlen : m.length = vs.length := k.len
  have hsel : y.nodes ≤ (sel m (ints (plc bs y.pzs)) y.ticks y.v T).length := by
    have hz : ∀ i (hi : i < zs.length), zs[i] = zi zs i := fun i hi => by simp [zi, List.getD, hi]
    have hp : (zs.map Int.toNat).Pairwise (· < ·) := by
      rw [List.pairwise_iff_getElem]
      intro i j hi hj hij
      simp only [List.length_map] at hi hj
      simp only [List.getElem_map]
      rw [hz i hi, hz j hj]
      have := gang_lt hg hij hj
      have := hg.low i hi
      omega
    have := rise_len hp (ys := sel m (ints (plc bs y.pzs)) y.ticks y.v T) fun j hj => by
      obtain ⟨z, hz1, rfl⟩ := List.mem_map.1 hj
      obtain ⟨i, hi, rfl⟩ := List.mem_iff_getElem.1 hz1
      rw [hz i hi]
      have l1 := hg.low i hi; have l2 := hg.high i hi
      have hj16 : (zi zs i).toNat < 16 := by omega
      have ha : Among zs zs.length (zi zs i).toNat := ⟨i, hi, by omega⟩
      unfold sel selk
      rw [List.mem_filter, List.mem_range]
      refine ⟨hj16, ?_⟩
      simp only [pick, Bool.and_eq_true, decide_eq_true_eq, among_ints]
      refine ⟨⟨by omega, ?_⟩, ?_⟩
      · obtain ⟨n, hn, e⟩ := List.mem_map.1 (ho.inn i hi)
        have : (zi zs i).toNat = n := by omega
        rw [this]; exact hn
      · rw [held_ok k (by omega) (by omega) (by omega)]
        refine ⟨by omega, fun x a b => ?_⟩
        have := hle (zi zs i).toNat (by omega) x (by omega) (by omega)
        simpa [addU, itm, ha, a, b] using this
    have h2 := ho.len
    simp at this
    omega
  unfold FindRel at h
  rw [if_pos ⟨by omega, by omega, c3⟩] at h
  rcases h with ⟨hb, h1, h2, h3, h4, h5⟩ | ⟨_, _, _, hn⟩
  · refine ⟨hb, ?_⟩
    apply Classical.byContradiction
    intro c
    have := h5 T hT (by omega)
    omega
  · have := hn T hT hT2
    omega

theorem kept_le {vs : List V4} {bs : List Bool} {least : Int} {y : Ask} {b : Bool} (hw : WantOk vs bs least y) (hb : b = true → 0 ≤ y.start) : leU (keptU least (y, b)) (wantU y) := by
  cases b with
  | false => simp only [keptU]; exact leU_no (nn_want hw)
  | true =>
    have h0 := hb rfl
    rcases hw with c | ⟨_, c, _⟩
    · omega
    · have e : from_ least y = y.start := by unfold from_; omega
      simp only [keptU, wantU, if_pos h0, e]
      exact leU.refl _
theorem kepts_le {vs : List V4} {bs : List Bool} {least : Int} {st : List (Ask × Bool)} (hw : ∀ x, x ∈ st → WantOk vs bs least x.1) (hb : ∀ x, x ∈ st → x.2 = true → 0 ≤ x.1.start) : leU (keptsU least st) (wantsU (st.map Prod.fst)) := by
  induction st with
  | nil => exact leU.refl _
  | cons x xs ih =>
    show leU (addU (keptU least x) (keptsU least xs)) (addU (wantU x.1) (wantsU (xs.map Prod.fst)))
    exact leU_add (kept_le (hw x (List.mem_cons_self ..)) (hb x (List.mem_cons_self ..))) (ih (fun y hy => hw y (List.mem_cons_of_mem _ hy)) (fun y hy => hb y (List.mem_cons_of_mem _ hy)))
theorem split_at {α : Type} {l : List α} {i : Nat} {x : α} (h : l[i]? = some x) : l = l.take i ++ x :: l.drop (i + 1) := by
  have := List.take_append_drop (i + 1) l
  rw [take_snoc h, List.append_assoc] at this
  exact this.symm

/-- nobody is put off -/
theorem keeps_law {vs : List V4} {now least : Int} {bs : List Bool} {hs hs2 : List Hold} {asks : List Ask} {slots : List Slot} {A B M : List Ask} {c : Ask} (hp : PassRel vs now bs hs asks slots) (hnl : now ≤ least) (hlm : least < 1099511627776)
    (hleast : ∀ s, s ∈ slots → 0 ≤ s.start → least ≤ s.start) (he : Ends now least hs hs2) (hc : c.start = -1) (hperm : (A ++ B ++ M).Perm (againL asks slots)) :
    (∀ r q, LayRel vs bs.length least hs2 r q → r = 0) ∧ ∀ slots2, PassRel vs least bs hs2 (A ++ c :: B) slots2 → ∀ i y s, (A ++ c :: B)[i]? = some y → slots2[i]? = some s → i ≠ A.length → 0 ≤ y.start → 0 ≤ s.start ∧ s.start ≤ y.start := by
  have hpo := pass_ok hp
  obtain ⟨hg2, hle2⟩ := ends_le hpo.lay.lo hnl he hpo.holds
  have hlo := hpo.lay.lo
  have hok2 : LayOk vs bs.length least := ⟨hpo.lay.few, hpo.lay.right, hpo.lay.up, by omega, hlm⟩
  have hwa : ∀ y, y ∈ againL asks slots → WantOk vs bs least y := fun y hy => by
    obtain ⟨x, hx, rfl⟩ := List.mem_map.1 hy
    exact want_of (hpo.slot x hx) (hleast x.2 (List.of_mem_zip (a := x.1) (b := x.2) hx).2) hlo
  have hwc : WantOk vs bs least c := .inl (by omega)
  have hwcU : wantU c = noU := by unfold wantU; rw [if_neg (by omega)]
  have hwAB : ∀ y, y ∈ A ++ c :: B → WantOk vs bs least y := fun y hy => by
    rcases List.mem_append.1 hy with hy | hy
    · exact hwa y (hperm.mem_iff.1 (by simp [hy]))
    · rcases List.mem_cons.1 hy with rfl | hy
      · exact hwc
      · exact hwa y (hperm.mem_iff.1 (by simp [hy]))
  have hwM : ∀ y, y ∈ M → WantOk vs bs least y := fun y hy => hwa y (hperm.mem_iff.1 (by simp [hy]))
  have hsum : leU (wantsU (A ++ c :: B)) (slotsU (asks.zip slots)) := by
    rw [← wants_again]
    have e1 : wantsU (againL asks slots) = wantsU (A ++ B ++ M) := (sumU_perm (hperm.map wantU)).symm
    have e2 : wantsU (A ++ c :: B) = wantsU (A ++ B) := by
      rw [wantsU_app, wantsU_app]
      show addU (wantsU A) (addU (wantU c) (wantsU B)) = _
      rw [hwcU, no_addU]
    rw [e1, e2, wantsU_app (A ++ B)]
    exact leU_left (nn_wants hwM)
  have htot : ∀ i, i < vs.length → ∀ u, 0 ≤ u → u < 1099511627776 → (addU (holdsU least hs2) (wantsU (A ++ c :: B)) i u).leq (vv vs i) := fun i hi u a b => (leU_add hle2 hsum i u).trans (hpo.le i hi u a b)
  refine ⟨fun r q h => lay_yes hok2 hg2 (fun i hi u a b => leq_addU (nn_wants hwAB) (htot i hi u a b)) h, ?_⟩
  intro slots2 hp2 i y s hy hs hi h0
  obtain ⟨ps, q1, q2, st, rd, hl, hk, hs1, hr, hs2', hs3⟩ := hp2.go
  obtain ⟨_, k0, hg⟩ := lay_held hl
  obtain ⟨k1, hk1⟩ := kept_chain hk k0
  have hst : ∀ x, x ∈ st → x.1 ∈ A ++ c :: B := fun x hx => by rw [← hs1]; exact List.mem_map.2 ⟨x, hx, rfl⟩
  have hwst : ∀ x, x ∈ st → WantOk vs bs least x.1 := fun x hx => hwAB _ (hst x hx)
  obtain ⟨x, hx⟩ : ∃ x, rd[i]? = some x := by
    have h1 := (List.getElem?_eq_some_iff.1 hs).1
    have h2 : rd.length = slots2.length := by rw [← hs3]; simp
    exact ⟨rd[i]'(by omega), List.getElem?_eq_getElem _⟩
  have hxs : x.2 = s := by
    have : (rd.map Prod.snd)[i]? = some s := by rw [hs3]; exact hs
    rw [List.getElem?_map, hx] at this
    simpa using this
  have hxst : st[i]? = some x.1 := by rw [← hs2', List.getElem?_map, hx]; rfl
  have hxy : x.1.1 = y := by
    have : (st.map Prod.fst)[i]? = some y := by rw [hs1]; exact hy
    rw [List.getElem?_map, hxst] at this
    simpa using this
  obtain ⟨⟨y', b⟩, s'⟩ := x
  have e1 : y' = y := hxy
  have e2 : s' = s := hxs
  subst e1 e2
  have hwy := hwst _ (List.mem_of_getElem? hxst)
  rcases hwy with c0 | ⟨w1, w2, w3, w4, w5, w6⟩
  · have : y'.start < 0 := c0
    omega
  have w1' : y'.can = true := w1
  have w2' : least ≤ y'.start := w2
  have w3' : y'.start < 1099511627776 := w3
  have w4' : OfAsk bs y' y'.gzs := w4
  have w5' : Gang vs.length y'.gzs := w5
  have w6' : spanL y'.start (y'.start + y'.ticks) y'.v = true := w6
  have hfr : from_ least y' = y'.start := by unfold from_; omega
  have hend : endT y'.start y'.ticks = y'.start + y'.ticks := by
    obtain ⟨_, _, s3, _⟩ := span_parts w6'
    unfold endT; rw [if_neg (by omega)]
  have hb : b = true := by
    have hsp := split_at hxst
    rw [hsp] at hk
    obtain ⟨m, m', g1, g2, _⟩ := chain_split hk
    obtain ⟨km, _⟩ := kept_chain g1 k0
    rcases g2 with ⟨d, _⟩ | ⟨_, d, _⟩ | ⟨_, _, r, hT, hr0⟩
    · have : y'.start < 0 := d
      omega
    · refine absurd ⟨w1', ?_, ?_, ?_⟩ d
      · show least ≤ from_ least y'; omega
      · show from_ least y' ≤ _; omega
      · exact w4'
    · refine hr0.2 ?_
      have hT1 := hT.1
      have hT2 : TookG m y'.gzs y'.start (y'.start + y'.ticks) y'.v r m' := by rw [← hend, ← hfr]; exact hT1
      refine took_yes km w5' w6' (fun i' hi' u a b' => ?_) hT2
      refine V4.leq.trans ?_ (htot i' hi' u a b')
      rw [addU_assoc]
      refine leU_add (leU.refl _) ?_ i' u
      have hy1 : (st.map Prod.fst).take (i + 1) = (st.take i).map Prod.fst ++ [y'] := by
        rw [← List.map_take, take_snoc hxst]; simp
      have hspl : wantsU (A ++ c :: B) = addU (addU (wantsU ((st.take i).map Prod.fst)) (wantU y')) (wantsU ((A ++ c :: B).drop (i + 1))) := by
        conv => lhs; rw [← List.take_append_drop (i + 1) (A ++ c :: B), wantsU_app]
        rw [← hs1, hy1, wantsU_app]
        congr 2
        simp [wantsU, sumU, addU_no]
      rw [hspl]
      refine leU.trans (leU_add (kepts_le (bs := bs) (vs := vs) (fun x hx => hwst x (List.mem_of_mem_take hx)) (fun x hx hxb => (hk1 x (List.mem_of_mem_take hx) hxb).start)) ?_) (leU_left (nn_wants fun z hz => hwAB z (List.mem_of_mem_drop hz)))
      unfold wantU
      rw [if_pos h0]
      exact leU.refl _
  subst hb
  have hrd := split_at hx
  rw [hrd] at hr
  have ek : addU (holdsU least hs2) (sumU (st.map (keptU least))) = addU (holdsU least hs2) (keptsU least ((rd.take i ++ ((y', true), s') :: rd.drop (i + 1)).map Prod.fst)) := by rw [← hrd, hs2']; rfl
  obtain ⟨mid, m, q', g1, g2, _, g4⟩ := round_at hok2.lo hr (k1.eqU ek) (nn_holds hg) (fun z hz hb => hk1 z.1 (by rw [← hrd] at hz; rw [← hs2']; exact List.mem_map.2 ⟨z, hz, rfl⟩) hb)
  rcases g4 with ⟨d, _⟩ | ⟨_, t, xs, is, hR, d1, d2⟩
  · have d' : y'.can = false := d
    rw [w1'] at d'; cases d'
  · have ekk : keptU least ((y', true), s').1 = itm y'.gzs y'.start (y'.start + y'.ticks) y'.v := by simp only [keptU, if_pos, hfr]
    obtain ⟨f1, f2⟩ := found_le g2 (fun i' hi' u a b' => by
      have := g1.le (by rw [g1.len]; exact hi') a b'
      rw [ekk] at this
      exact this) w4' w1' w5' w6' hpo.lay.few (by omega) w3' hR
    subst f1
    have hge := hR.found.ge
    have h2 := (d2 rfl).1
    have h2' : s'.start = t := h2
    exact ⟨by omega, by omega⟩
end Go.Proofs.Ytpjajiambbobhaa

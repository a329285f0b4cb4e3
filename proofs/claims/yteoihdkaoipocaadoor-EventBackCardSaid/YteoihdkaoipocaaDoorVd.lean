/- Parts Sp0, Sp1, Rrt, Chk, Spv in one text. Plain theorems: no condition. -/
import Derived.Test.YteoihdkaoipocaaDoorVc
import Derived.Test.YteoihdkaoipocaaDoorVa
/- Specs, plain: which may be, their words, their text, what a text asks for. Plain theorems: no condition. -/
namespace Go.Proofs.YteoihdkaoipocaaDoor
open Go.RowKit Go.Maps Go.Shelf

/-- a spec as it is told -/
structure Spp where
  user : ByteArray
  part : ByteArray
  nodes : Int
  dem : V4
  wall : Int
  prio : Int
  array : Int
  retries : Int
  held : Bool
  after : List Int
deriving DecidableEq

def Spp.zero : Spp := ⟨ByteArray.empty, ByteArray.empty, 0, V4.zero, 0, 0, 0, 0, false, []⟩
def Spp.one : Spp := ⟨ByteArray.empty, ByteArray.empty, 0, V4.zero, 0, 0, 1, 0, false, []⟩

def memI (l : List Int) (x : Int) : Bool := l.any fun y => decide (y = x)
def okw (n : Int) : Bool := decide (n ≠ 0) && decide (-8 ≤ n) && decide (n ≤ 1099511627776)
def waitTo (l : List Int) : Nat → Bool
  | 0 => true
  | k + 1 => waitTo l k && (okw (l.getD k 0) && !memI (l.take k) (l.getD k 0))
/-- may these be waited for? -/
def waitsL (l : List Int) : Bool := decide (l.length ≤ 8) && waitTo l l.length
def betw (n lo hi : Int) : Bool := decide (lo ≤ n) && decide (n ≤ hi)
def demOk (v : V4) : Bool := v.right && decide (v ≠ V4.zero)
def mayS (s : Spp) : Bool := isName s.user && isName s.part && demOk s.dem && waitsL s.after && betw s.nodes 1 16 && betw s.wall 1 1000 && betw s.prio 0 100 && betw s.array 1 20 && betw s.retries 0 5

theorem waitTo_le {l : List Int} {k n : Nat} (h : waitTo l n = true) (hk : k ≤ n) : waitTo l k = true := by
  induction n with
  | zero => have : k = 0 := by omega
            subst this; rfl
  | succ n ih =>
    by_cases c : k = n + 1
    · subst c; exact h
    · simp only [waitTo, Bool.and_eq_true] at h
      exact ih h.1 (by omega)
theorem waitTo_no {l : List Int} {k : Nat} (hk : k < l.length) (h : (okw (l.getD k 0) && !memI (l.take k) (l.getD k 0)) = false) : waitTo l l.length = false := by
  rw [Bool.eq_false_iff]
  intro c
  have := waitTo_le c (show k + 1 ≤ l.length by omega)
  simp [waitTo] at this
  simp at h
  exact absurd (h this.2.1) (by simp [this.2.2])
theorem memI_iff {l : List Int} {x : Int} : memI l x = true ↔ x ∈ l := by
  unfold memI
  rw [List.any_eq_true]
  constructor
  · rintro ⟨y, hy, e⟩
    rw [← of_decide_eq_true e]; exact hy
  · intro h
    exact ⟨x, h, by simp⟩

def kUser : ByteArray := { data := #[117, 115, 101, 114] }
def kPart : ByteArray := { data := #[112, 97, 114, 116] }
def kNodes : ByteArray := { data := #[110, 111, 100, 101, 115] }
def kDemand : ByteArray := { data := #[100, 101, 109, 97, 110, 100] }
def kWall : ByteArray := { data := #[119, 97, 108, 108] }
def kPrio : ByteArray := { data := #[112, 114, 105, 111] }
def kArray : ByteArray := { data := #[97, 114, 114, 97, 121] }
def kRetries : ByteArray := { data := #[114, 101, 116, 114, 105, 101, 115] }
def kHeld : ByteArray := { data := #[104, 101, 108, 100] }
def kAfter : ByteArray := { data := #[97, 102, 116, 101, 114] }
def keysL : List ByteArray := [kUser, kPart, kNodes, kDemand, kWall, kPrio, kArray, kRetries, kHeld, kAfter]

/-- a word: its key, a sign, its value -/
def kv (k : ByteArray) (v : List UInt8) : List UInt8 := k.data.toList ++ 61 :: v
/-- numbers with commas between -/
def listT (l : List Int) : List UInt8 := Lib.join (l.map Lib.itoa) [44]
def pairsS (s : Spp) : List (ByteArray × List UInt8) :=
  [(kUser, s.user.data.toList), (kPart, s.part.data.toList), (kNodes, Lib.itoa s.nodes), (kDemand, txtV s.dem), (kWall, Lib.itoa s.wall)] ++
  (if s.prio = 0 then [] else [(kPrio, Lib.itoa s.prio)]) ++ (if s.array = 1 then [] else [(kArray, Lib.itoa s.array)]) ++
  (if s.retries = 0 then [] else [(kRetries, Lib.itoa s.retries)]) ++ (if s.held = true then [(kHeld, [49])] else []) ++
  (if s.after = [] then [] else [(kAfter, listT s.after)])
def wordsS (s : Spp) : List (List UInt8) := (pairsS s).map fun p => kv p.1 p.2
/-- a spec's text -/
def textS (s : Spp) : List UInt8 := if mayS s = true then Lib.join (wordsS s) [32] else []

/-- the number of a key's field; none: the number may not be -/
def fieldN (v : ByteArray) (lo hi : Int) : Option Int := if betw (numOf v 13) lo hi = true then some (numOf v 13) else none
/-- one number of a row -/
def oneN (p : List UInt8) : Option Int :=
  if p.head? = some 45 then (if numOf (ofL p.tail) 13 < 0 then none else some (-(numOf (ofL p.tail) 13)))
  else if numOf (ofL p) 13 < 0 then none else some (numOf (ofL p) 13)
def manyN : List (List UInt8) → Option (List Int)
  | [] => some []
  | p :: ps => match oneN p with
    | none => none
    | some n => match manyN ps with
      | none => none
      | some l => some (n :: l)
def rowN (v : ByteArray) : Option (List Int) := match manyN (cutAll 44 v.data.toList) with
  | none => none
  | some l => if waitsL l = true then some l else none
/-- a spec with a field set -/
def setP (k v : ByteArray) (s : Spp) : Option Spp :=
  if k = kUser then (if isName v = true then some { s with user := v } else none)
  else if k = kPart then (if isName v = true then some { s with part := v } else none)
  else if k = kNodes then (fieldN v 1 16).map fun n => { s with nodes := n }
  else if k = kDemand then (if (vecOf v).2 = 0 ∧ (vecOf v).1 ≠ V4.zero then some { s with dem := (vecOf v).1 } else none)
  else if k = kWall then (fieldN v 1 1000).map fun n => { s with wall := n }
  else if k = kPrio then (fieldN v 0 100).map fun n => { s with prio := n }
  else if k = kArray then (fieldN v 1 20).map fun n => { s with array := n }
  else if k = kRetries then (fieldN v 0 5).map fun n => { s with retries := n }
  else if k = kHeld then (if v = { data := #[49] } then some { s with held := true } else none)
  else if k = kAfter then (rowN v).map fun l => { s with after := l }
  else none
/-- a word's key and value -/
def keyVal (w : ByteArray) : Option (ByteArray × ByteArray) := match Lib.cut w.data.toList [61] with
  | (a, r, b) => if b = true then some (ofL a, ofL r) else none
def stepP (met : List ByteArray) (s : Spp) (w : ByteArray) : Option (ByteArray × Spp) := match keyVal w with
  | none => none
  | some (k, v) => if memB met k = true then none else (setP k v s).map fun t => (k, t)
/-- word by word: what there is at the end, or the place of the word that may not be -/
def parseW : List ByteArray → List ByteArray → Spp → (List ByteArray × Spp) ⊕ Nat
  | [], met, s => .inl (met, s)
  | w :: ws, met, s => match stepP met s w with
    | none => .inr (met.length + 1)
    | some (k, t) => parseW ws (met ++ [k]) t
def five (met : List ByteArray) : Bool := memB met kUser && memB met kPart && memB met kNodes && memB met kDemand && memB met kWall
def endP (n : Nat) : (List ByteArray × Spp) ⊕ Nat → Spp × Int × Int
  | .inr k => (Spp.zero, 80, (k : Int))
  | .inl (met, s) => if five met = true then (s, 0, 0) else (Spp.zero, 80, ((n + 1 : Nat) : Int))
/-- what a text asks for -/
def parseOf (t : ByteArray) : Spp × Int × Int := if 4096 < t.size then (Spp.zero, 2, 0) else endP (words t).length (parseW (words t) [] Spp.one)
end Go.Proofs.YteoihdkaoipocaaDoor

/- Specs, plain: what a text asks for may be; a spec's text is read as it, in any order of its words. Plain theorems: no condition. -/
namespace Go.Proofs.YteoihdkaoipocaaDoor
open Go.RowKit Go.Maps Go.Shelf

theorem vecOf_right {v : ByteArray} (h : (vecOf v).2 = 0) : (vecOf v).1.right = true := by
  unfold vecOf at h ⊢
  split at h
  · next c =>
    rw [if_pos c]
    unfold V4.told at h ⊢
    split at h
    · next d => rw [if_pos d]; exact d
    · exact absurd h (by decide)
  · exact absurd h (by decide)
theorem fieldN_some {v : ByteArray} {lo hi n : Int} (h : fieldN v lo hi = some n) : betw n lo hi = true ∧ n = numOf v 13 := by
  unfold fieldN at h
  split at h
  · next c => injection h with h; subst h; exact ⟨c, rfl⟩
  · cases h
theorem rowN_some {v : ByteArray} {l : List Int} (h : rowN v = some l) : waitsL l = true := by
  unfold rowN at h
  split at h
  · cases h
  · split at h
    · next c => injection h with h; subst h; exact c
    · cases h

/-- what a spec that is half read has -/
structure SInv (met : List ByteArray) (s : Spp) : Prop where
  user : kUser ∈ met → isName s.user = true
  part : kPart ∈ met → isName s.part = true
  nodes : kNodes ∈ met → betw s.nodes 1 16 = true
  dem : kDemand ∈ met → demOk s.dem = true
  wall : kWall ∈ met → betw s.wall 1 1000 = true
  prio : betw s.prio 0 100 = true
  array : betw s.array 1 20 = true
  retries : betw s.retries 0 5 = true
  after : waitsL s.after = true
theorem SInv.one : SInv [] Spp.one := ⟨nofun, nofun, nofun, nofun, nofun, by decide, by decide, by decide, by decide⟩
theorem mem_snoc {met : List ByteArray} {k x : ByteArray} (h : x ∈ met ++ [k]) (hne : k ≠ x) : x ∈ met := by
  rcases List.mem_append.1 h with h | h
  · exact h
  · exact absurd (by simpa using h : x = k).symm hne
theorem setP_inv {met : List ByteArray} {k v : ByteArray} {s t : Spp} (h : SInv met s) (e : setP k v s = some t) : SInv (met ++ [k]) t := by
  unfold setP at e
  split at e
  · next c =>
    subst c
    split at e
    · next d =>
      injection e with e; subst e
      exact ⟨fun _ => d, fun q => h.part (mem_snoc q (by decide)), fun q => h.nodes (mem_snoc q (by decide)), fun q => h.dem (mem_snoc q (by decide)), fun q => h.wall (mem_snoc q (by decide)), h.prio, h.array, h.retries, h.after⟩
    · cases e
  split at e
  · next c =>
    subst c
    split at e
    · next d =>
      injection e with e; subst e
      exact ⟨fun q => h.user (mem_snoc q (by decide)), fun _ => d, fun q => h.nodes (mem_snoc q (by decide)), fun q => h.dem (mem_snoc q (by decide)), fun q => h.wall (mem_snoc q (by decide)), h.prio, h.array, h.retries, h.after⟩
    · cases e
  split at e
  · next c =>
    subst c
    obtain ⟨n, d, rfl⟩ := Option.map_eq_some_iff.1 e
    exact ⟨fun q => h.user (mem_snoc q (by decide)), fun q => h.part (mem_snoc q (by decide)), fun _ => (fieldN_some d).1, fun q => h.dem (mem_snoc q (by decide)), fun q => h.wall (mem_snoc q (by decide)), h.prio, h.array, h.retries, h.after⟩
  split at e
  · next c =>
    subst c
    split at e
    · next d =>
      injection e with e; subst e
      exact ⟨fun q => h.user (mem_snoc q (by decide)), fun q => h.part (mem_snoc q (by decide)), fun q => h.nodes (mem_snoc q (by decide)), fun _ => by simp [demOk, vecOf_right d.1, d.2], fun q => h.wall (mem_snoc q (by decide)), h.prio, h.array, h.retries, h.after⟩
    · cases e
  split at e
  · next c =>
    subst c
    obtain ⟨n, d, rfl⟩ := Option.map_eq_some_iff.1 e
    exact ⟨fun q => h.user (mem_snoc q (by decide)), fun q => h.part (mem_snoc q (by decide)), fun q => h.nodes (mem_snoc q (by decide)), fun q => h.dem (mem_snoc q (by decide)), fun _ => (fieldN_some d).1, h.prio, h.array, h.retries, h.after⟩
  split at e
  · next c =>
    subst c
    obtain ⟨n, d, rfl⟩ := Option.map_eq_some_iff.1 e
    exact ⟨fun q => h.user (mem_snoc q (by decide)), fun q => h.part (mem_snoc q (by decide)), fun q => h.nodes (mem_snoc q (by decide)), fun q => h.dem (mem_snoc q (by decide)), fun q => h.wall (mem_snoc q (by decide)), (fieldN_some d).1, h.array, h.retries, h.after⟩
  split at e
  · next c =>
    subst c
    obtain ⟨n, d, rfl⟩ := Option.map_eq_some_iff.1 e
    exact ⟨fun q => h.user (mem_snoc q (by decide)), fun q => h.part (mem_snoc q (by decide)), fun q => h.nodes (mem_snoc q (by decide)), fun q => h.dem (mem_snoc q (by decide)), fun q => h.wall (mem_snoc q (by decide)), h.prio, (fieldN_some d).1, h.retries, h.after⟩
  split at e
  · next c =>
    subst c
    obtain ⟨n, d, rfl⟩ := Option.map_eq_some_iff.1 e
    exact ⟨fun q => h.user (mem_snoc q (by decide)), fun q => h.part (mem_snoc q (by decide)), fun q => h.nodes (mem_snoc q (by decide)), fun q => h.dem (mem_snoc q (by decide)), fun q => h.wall (mem_snoc q (by decide)), h.prio, h.array, (fieldN_some d).1, h.after⟩
  split at e
  · next c =>
    subst c
    split at e
    · next d =>
      injection e with e; subst e
      exact ⟨fun q => h.user (mem_snoc q (by decide)), fun q => h.part (mem_snoc q (by decide)), fun q => h.nodes (mem_snoc q (by decide)), fun q => h.dem (mem_snoc q (by decide)), fun q => h.wall (mem_snoc q (by decide)), h.prio, h.array, h.retries, h.after⟩
    · cases e
  split at e
  · next c =>
    subst c
    obtain ⟨n, d, rfl⟩ := Option.map_eq_some_iff.1 e
    exact ⟨fun q => h.user (mem_snoc q (by decide)), fun q => h.part (mem_snoc q (by decide)), fun q => h.nodes (mem_snoc q (by decide)), fun q => h.dem (mem_snoc q (by decide)), fun q => h.wall (mem_snoc q (by decide)), h.prio, h.array, h.retries, rowN_some d⟩
  · cases e
theorem stepP_inv {met : List ByteArray} {w k : ByteArray} {s t : Spp} (h : SInv met s) (e : stepP met s w = some (k, t)) : SInv (met ++ [k]) t := by
  unfold stepP at e
  split at e
  · cases e
  · split at e
    · cases e
    · obtain ⟨x, d, e⟩ := Option.map_eq_some_iff.1 e
      injection e with e1 e2
      subst e1; subst e2
      exact setP_inv h d
theorem parseW_inv : ∀ {ws met : List ByteArray} {s : Spp} {m' : List ByteArray} {t : Spp}, SInv met s → parseW ws met s = .inl (m', t) → SInv m' t
  | [], met, s, m', t, h, e => by
    unfold parseW at e
    injection e with e; injection e with e1 e2
    subst e1; subst e2; exact h
  | w :: ws, met, s, m', t, h, e => by
    unfold parseW at e
    split at e
    · cases e
    · next k x d => exact parseW_inv (stepP_inv h d) e
theorem five_inv {met : List ByteArray} {s : Spp} (h : SInv met s) (f : five met = true) : mayS s = true := by
  simp only [five, Bool.and_eq_true, memB_iff] at f
  obtain ⟨⟨⟨⟨f1, f2⟩, f3⟩, f4⟩, f5⟩ := f
  simp [mayS, h.user f1, h.part f2, h.nodes f3, h.dem f4, h.wall f5, h.prio, h.array, h.retries, h.after]
/-- what a text asks for may be -/
theorem parseOf_may {t : ByteArray} (h : (parseOf t).2.1 = 0) : mayS (parseOf t).1 = true ∧ (parseOf t).2.2 = 0 := by
  unfold parseOf at h ⊢
  split at h
  · exact absurd h (by decide)
  next c =>
  rw [if_neg c]
  cases e : parseW (words t) [] Spp.one with
  | inr n => rw [e] at h; exact absurd (show (80 : Int) = 0 from h) (by decide)
  | inl p =>
    obtain ⟨m, s⟩ := p
    rw [e] at h
    simp only [endP] at h ⊢
    split at h
    · next f => rw [if_pos f]; exact ⟨five_inv (parseW_inv SInv.one e) f, rfl⟩
    · exact absurd (show (80 : Int) = 0 from h) (by decide)
theorem cutAll_join {x : UInt8} : ∀ {ws : List (List UInt8)}, ws ≠ [] → (∀ w, w ∈ ws → x ∉ w) → cutAll x (Lib.join ws [x]) = ws
  | [w], _, h => by
    show cutAll x (List.intercalate [x] [w]) = _
    rw [show List.intercalate [x] [w] = w by simp [List.intercalate]]
    exact cutAll_no (h w (by simp))
  | w :: v :: r, _, h => by
    have e : List.intercalate [x] (w :: v :: r) = w ++ x :: List.intercalate [x] (v :: r) := by simp [List.intercalate]
    show cutAll x (List.intercalate [x] (w :: v :: r)) = _
    rw [e, cutAll_hit (h w (by simp))]
    have := cutAll_join (x := x) (ws := v :: r) (by simp) fun u hu => h u (by simp at hu ⊢; exact .inr hu)
    exact congrArg (w :: ·) this
theorem numOf_dec13 {u : Nat} (hu : u ≤ 1099511627776) : numOf (ofL (Lib.decDigits u)) 13 = (u : Int) := by
  have h10 : (10 : Nat) ^ (12 + 1) = 10000000000000 := by decide
  have hl : (Lib.decDigits u).length ≤ 13 := dec_len 12 u (by rw [h10]; omega)
  have hp := List.length_pos_iff.2 (dec_ne u)
  unfold numOf
  rw [ofL_size, if_neg, if_pos (digTo_all (dec_chars u) (Nat.le_refl _)), dec_num]
  rintro (h | h | ⟨h, e⟩)
  · omega
  · omega
  · have h0 : 0 < u := by
      rcases Nat.eq_zero_or_pos u with rfl | h0
      · rw [Lib.decDigits, dif_pos (by omega)] at h; simp at h
      · exact h0
    refine dec_head u h0 ?_
    unfold chz at e
    rw [ofL_toL] at e
    exact UInt8.toNat_inj.1 (by have : (48 : UInt8).toNat = 48 := rfl; omega)
theorem numOf_itoa13 {n : Int} (h0 : 0 ≤ n) (h1 : n ≤ 1099511627776) : numOf (ofL (Lib.itoa n)) 13 = n := by
  rw [itoa_pos h0, numOf_dec13 (by omega)]
  omega
theorem itoa_neg {n : Int} (h : n < 0) : Lib.itoa n = 45 :: Lib.decDigits (-n).toNat := by
  unfold Lib.itoa
  rw [if_pos h, show n.natAbs = (-n).toNat by omega]
theorem betw_iff {n lo hi : Int} : betw n lo hi = true ↔ lo ≤ n ∧ n ≤ hi := by simp [betw]
theorem fieldN_itoa {n lo hi : Int} (h : betw n lo hi = true) (h0 : 0 ≤ lo) (h1 : hi ≤ 1099511627776) : fieldN (ofL (Lib.itoa n)) lo hi = some n := by
  obtain ⟨a, b⟩ := betw_iff.1 h
  unfold fieldN
  rw [numOf_itoa13 (by omega) (by omega), if_pos h]
theorem oneN_itoa {n : Int} (h : okw n = true) : oneN (Lib.itoa n) = some n := by
  simp only [okw, Bool.and_eq_true, decide_eq_true_eq] at h
  obtain ⟨⟨h1, h2⟩, h3⟩ := h
  unfold oneN
  by_cases c : n < 0
  · rw [itoa_neg c, if_pos (show (45 :: Lib.decDigits (-n).toNat).head? = some 45 from rfl), List.tail_cons, numOf_dec13 (by omega), if_neg (by omega)]
    congr 1; omega
  · rw [numOf_itoa13 (by omega) h3, if_neg, if_neg c]
    rw [itoa_pos (by omega)]
    intro e
    have : (45 : UInt8) ∈ Lib.decDigits n.toNat := List.mem_of_mem_head? e
    have := dec_chars _ _ this
    unfold digC at this
    exact absurd this (by decide)
theorem manyN_itoa : ∀ {l : List Int}, (∀ n, n ∈ l → okw n = true) → manyN (l.map Lib.itoa) = some l
  | [], _ => rfl
  | n :: l, h => by
    rw [List.map_cons, manyN, oneN_itoa (h n (by simp)), manyN_itoa fun m hm => h m (by simp [hm])]
theorem waits_all {l : List Int} (h : waitsL l = true) : ∀ n, n ∈ l → okw n = true := fun n hn => by
  simp only [waitsL, Bool.and_eq_true] at h
  obtain ⟨k, hk, e⟩ := List.mem_iff_getElem.1 hn
  have := waitTo_le h.2 (show k + 1 ≤ l.length by omega)
  simp only [waitTo, Bool.and_eq_true] at this
  have h2 := this.2.1
  rw [List.getD, List.getElem?_eq_getElem hk, Option.getD_some, e] at h2
  exact h2
theorem waits_len {l : List Int} (h : waitsL l = true) : l.length ≤ 8 := by
  simp only [waitsL, Bool.and_eq_true, decide_eq_true_eq] at h
  exact h.1
theorem okw_bd {n : Int} (h : okw n = true) : n ≠ 0 ∧ -8 ≤ n ∧ n ≤ 1099511627776 := by
  simp only [okw, Bool.and_eq_true, decide_eq_true_eq] at h
  exact ⟨h.1.1, h.1.2, h.2⟩
theorem itoa_any_chars (n : Int) : ∀ c, c ∈ Lib.itoa n → c = 45 ∨ digC c := by
  intro c hc
  by_cases h : n < 0
  · rw [itoa_neg h] at hc
    rcases List.mem_cons.1 hc with h | h
    · exact .inl h
    · exact .inr (dec_chars _ _ h)
  · exact .inr (itoa_chars (by omega) c hc)
theorem itoa_any_not {n : Int} {x : UInt8} (h : (x.toNat < 48 ∨ 57 < x.toNat) ∧ x ≠ 45) : x ∉ Lib.itoa n := fun hm => by
  rcases itoa_any_chars n x hm with e | e
  · exact h.2 e
  · unfold digC at e; omega
theorem rowN_list {l : List Int} (h : waitsL l = true) (hne : l ≠ []) : rowN (ofL (listT l)) = some l := by
  unfold rowN listT
  rw [ofL_toL, cutAll_join (by simpa using hne) (fun w hw => by
    obtain ⟨n, _, rfl⟩ := List.mem_map.1 hw
    exact itoa_any_not (by decide)), manyN_itoa (waits_all h)]
  show (if waitsL l = true then some l else none) = _
  exact if_pos h
theorem keyVal_kv {k : ByteArray} {v : List UInt8} (h : (61 : UInt8) ∉ k.data.toList) : keyVal (ofL (kv k v)) = some (k, ofL v) := by
  unfold keyVal kv
  rw [ofL_toL, cut_hit h]
  simp [ofL_self]
theorem mayS_parts {s : Spp} (h : mayS s = true) : isName s.user = true ∧ isName s.part = true ∧ demOk s.dem = true ∧ waitsL s.after = true ∧ betw s.nodes 1 16 = true ∧ betw s.wall 1 1000 = true ∧ betw s.prio 0 100 = true ∧ betw s.array 1 20 = true ∧ betw s.retries 0 5 = true := by
  simp only [mayS, Bool.and_eq_true] at h
  obtain ⟨⟨⟨⟨⟨⟨⟨⟨a, b⟩, c⟩, d⟩, e⟩, f⟩, g⟩, i⟩, j⟩ := h
  exact ⟨a, b, c, d, e, f, g, i, j⟩
theorem demOk_iff {v : V4} : demOk v = true ↔ v.right = true ∧ v ≠ V4.zero := by simp [demOk]

/-- the fields of some keys taken from another spec -/
def updP (ks : List ByteArray) (s t : Spp) : Spp :=
  ⟨if memB ks kUser = true then s.user else t.user, if memB ks kPart = true then s.part else t.part, if memB ks kNodes = true then s.nodes else t.nodes, if memB ks kDemand = true then s.dem else t.dem, if memB ks kWall = true then s.wall else t.wall,
    if memB ks kPrio = true then s.prio else t.prio, if memB ks kArray = true then s.array else t.array, if memB ks kRetries = true then s.retries else t.retries, if memB ks kHeld = true then s.held else t.held, if memB ks kAfter = true then s.after else t.after⟩
theorem snoc_not {met : List ByteArray} {k x : ByteArray} (h : x ≠ k) : memB (met ++ [k]) x = memB met x := by
  rw [Bool.eq_iff_iff, memB_iff, memB_iff]; simp [h]
theorem snoc_yes {met : List ByteArray} {k : ByteArray} : memB (met ++ [k]) k = true := by rw [memB_iff]; simp
def keysE : List (ByteArray × List UInt8) → List ByteArray := List.map Prod.fst
theorem pairs_cases {s : Spp} {p : ByteArray × List UInt8} (h : p ∈ pairsS s) :
    p = (kUser, s.user.data.toList) ∨ p = (kPart, s.part.data.toList) ∨ p = (kNodes, Lib.itoa s.nodes) ∨ p = (kDemand, txtV s.dem) ∨ p = (kWall, Lib.itoa s.wall) ∨ p = (kPrio, Lib.itoa s.prio) ∨ p = (kArray, Lib.itoa s.array) ∨ p = (kRetries, Lib.itoa s.retries) ∨ (s.held = true ∧ p = (kHeld, [49])) ∨ (s.after ≠ [] ∧ p = (kAfter, listT s.after)) := by
  simp only [pairsS, List.mem_append, List.mem_cons, List.not_mem_nil, or_false] at h
  rcases h with ((((h | h) | h) | h) | h) | h
  · rcases h with h | h | h | h | h <;> simp [h]
  · split at h
    · simp at h
    · simp at h; simp [h]
  · split at h
    · simp at h
    · simp at h; simp [h]
  · split at h
    · simp at h
    · simp at h; simp [h]
  · split at h
    · next c => simp at h; simp [h, c]
    · simp at h
  · split at h
    · simp at h
    · next c => simp at h; simp [h, c]
theorem setP_pair {s : Spp} (hs : mayS s = true) {met : List ByteArray} {p : ByteArray × List UInt8} (h : p ∈ pairsS s) (u : Spp) :
    setP p.1 (ofL p.2) (updP met s u) = some (updP (met ++ [p.1]) s u) := by
  obtain ⟨q1, q2, q3, q4, q5, q6, q7, q8, q9⟩ := mayS_parts hs
  have d := demOk_iff.1 q3
  rcases pairs_cases h with rfl | rfl | rfl | rfl | rfl | rfl | rfl | rfl | ⟨hh, rfl⟩ | ⟨ha, rfl⟩
  · simp only [setP, ofL_self, q1, if_true]
    simp only [updP, snoc_yes, if_true, snoc_not (show kPart ≠ kUser by decide), snoc_not (show kNodes ≠ kUser by decide), snoc_not (show kDemand ≠ kUser by decide), snoc_not (show kWall ≠ kUser by decide), snoc_not (show kPrio ≠ kUser by decide), snoc_not (show kArray ≠ kUser by decide), snoc_not (show kRetries ≠ kUser by decide), snoc_not (show kHeld ≠ kUser by decide), snoc_not (show kAfter ≠ kUser by decide)]
  · simp only [setP, ofL_self, q2, if_true, if_neg (show kPart ≠ kUser by decide)]
    simp only [updP, snoc_yes, if_true, snoc_not (show kUser ≠ kPart by decide), snoc_not (show kNodes ≠ kPart by decide), snoc_not (show kDemand ≠ kPart by decide), snoc_not (show kWall ≠ kPart by decide), snoc_not (show kPrio ≠ kPart by decide), snoc_not (show kArray ≠ kPart by decide), snoc_not (show kRetries ≠ kPart by decide), snoc_not (show kHeld ≠ kPart by decide), snoc_not (show kAfter ≠ kPart by decide)]
  · simp only [setP, if_true, if_neg (show kNodes ≠ kUser by decide), if_neg (show kNodes ≠ kPart by decide), fieldN_itoa q5 (by decide) (by decide), Option.map_some]
    simp only [updP, snoc_yes, if_true, snoc_not (show kUser ≠ kNodes by decide), snoc_not (show kPart ≠ kNodes by decide), snoc_not (show kDemand ≠ kNodes by decide), snoc_not (show kWall ≠ kNodes by decide), snoc_not (show kPrio ≠ kNodes by decide), snoc_not (show kArray ≠ kNodes by decide), snoc_not (show kRetries ≠ kNodes by decide), snoc_not (show kHeld ≠ kNodes by decide), snoc_not (show kAfter ≠ kNodes by decide)]
  · simp only [setP, if_true, if_neg (show kDemand ≠ kUser by decide), if_neg (show kDemand ≠ kPart by decide), if_neg (show kDemand ≠ kNodes by decide), vecOf_txt d.1]
    rw [if_pos ⟨trivial, d.2⟩]
    simp only [updP, snoc_yes, if_true, snoc_not (show kUser ≠ kDemand by decide), snoc_not (show kPart ≠ kDemand by decide), snoc_not (show kNodes ≠ kDemand by decide), snoc_not (show kWall ≠ kDemand by decide), snoc_not (show kPrio ≠ kDemand by decide), snoc_not (show kArray ≠ kDemand by decide), snoc_not (show kRetries ≠ kDemand by decide), snoc_not (show kHeld ≠ kDemand by decide), snoc_not (show kAfter ≠ kDemand by decide)]
  · simp only [setP, if_true, if_neg (show kWall ≠ kUser by decide), if_neg (show kWall ≠ kPart by decide), if_neg (show kWall ≠ kNodes by decide), if_neg (show kWall ≠ kDemand by decide), fieldN_itoa q6 (by decide) (by decide), Option.map_some]
    simp only [updP, snoc_yes, if_true, snoc_not (show kUser ≠ kWall by decide), snoc_not (show kPart ≠ kWall by decide), snoc_not (show kNodes ≠ kWall by decide), snoc_not (show kDemand ≠ kWall by decide), snoc_not (show kPrio ≠ kWall by decide), snoc_not (show kArray ≠ kWall by decide), snoc_not (show kRetries ≠ kWall by decide), snoc_not (show kHeld ≠ kWall by decide), snoc_not (show kAfter ≠ kWall by decide)]
  · simp only [setP, if_true, if_neg (show kPrio ≠ kUser by decide), if_neg (show kPrio ≠ kPart by decide), if_neg (show kPrio ≠ kNodes by decide), if_neg (show kPrio ≠ kDemand by decide), if_neg (show kPrio ≠ kWall by decide), fieldN_itoa q7 (by decide) (by decide), Option.map_some]
    simp only [updP, snoc_yes, if_true, snoc_not (show kUser ≠ kPrio by decide), snoc_not (show kPart ≠ kPrio by decide), snoc_not (show kNodes ≠ kPrio by decide), snoc_not (show kDemand ≠ kPrio by decide), snoc_not (show kWall ≠ kPrio by decide), snoc_not (show kArray ≠ kPrio by decide), snoc_not (show kRetries ≠ kPrio by decide), snoc_not (show kHeld ≠ kPrio by decide), snoc_not (show kAfter ≠ kPrio by decide)]
  · simp only [setP, if_true, if_neg (show kArray ≠ kUser by decide), if_neg (show kArray ≠ kPart by decide), if_neg (show kArray ≠ kNodes by decide), if_neg (show kArray ≠ kDemand by decide), if_neg (show kArray ≠ kWall by decide), if_neg (show kArray ≠ kPrio by decide), fieldN_itoa q8 (by decide) (by decide), Option.map_some]
    simp only [updP, snoc_yes, if_true, snoc_not (show kUser ≠ kArray by decide), snoc_not (show kPart ≠ kArray by decide), snoc_not (show kNodes ≠ kArray by decide), snoc_not (show kDemand ≠ kArray by decide), snoc_not (show kWall ≠ kArray by decide), snoc_not (show kPrio ≠ kArray by decide), snoc_not (show kRetries ≠ kArray by decide), snoc_not (show kHeld ≠ kArray by decide), snoc_not (show kAfter ≠ kArray by decide)]
  · simp only [setP, if_true, if_neg (show kRetries ≠ kUser by decide), if_neg (show kRetries ≠ kPart by decide), if_neg (show kRetries ≠ kNodes by decide), if_neg (show kRetries ≠ kDemand by decide), if_neg (show kRetries ≠ kWall by decide), if_neg (show kRetries ≠ kPrio by decide), if_neg (show kRetries ≠ kArray by decide), fieldN_itoa q9 (by decide) (by decide), Option.map_some]
    simp only [updP, snoc_yes, if_true, snoc_not (show kUser ≠ kRetries by decide), snoc_not (show kPart ≠ kRetries by decide), snoc_not (show kNodes ≠ kRetries by decide), snoc_not (show kDemand ≠ kRetries by decide), snoc_not (show kWall ≠ kRetries by decide), snoc_not (show kPrio ≠ kRetries by decide), snoc_not (show kArray ≠ kRetries by decide), snoc_not (show kHeld ≠ kRetries by decide), snoc_not (show kAfter ≠ kRetries by decide)]
  · simp only [setP, if_true, if_neg (show kHeld ≠ kUser by decide), if_neg (show kHeld ≠ kPart by decide), if_neg (show kHeld ≠ kNodes by decide), if_neg (show kHeld ≠ kDemand by decide), if_neg (show kHeld ≠ kWall by decide), if_neg (show kHeld ≠ kPrio by decide), if_neg (show kHeld ≠ kArray by decide), if_neg (show kHeld ≠ kRetries by decide)]
    rw [if_pos (show ofL [49] = ({ data := #[49] } : ByteArray) from rfl)]
    simp only [updP, snoc_yes, if_true, hh, snoc_not (show kUser ≠ kHeld by decide), snoc_not (show kPart ≠ kHeld by decide), snoc_not (show kNodes ≠ kHeld by decide), snoc_not (show kDemand ≠ kHeld by decide), snoc_not (show kWall ≠ kHeld by decide), snoc_not (show kPrio ≠ kHeld by decide), snoc_not (show kArray ≠ kHeld by decide), snoc_not (show kRetries ≠ kHeld by decide), snoc_not (show kAfter ≠ kHeld by decide)]
  · simp only [setP, if_true, if_neg (show kAfter ≠ kUser by decide), if_neg (show kAfter ≠ kPart by decide), if_neg (show kAfter ≠ kNodes by decide), if_neg (show kAfter ≠ kDemand by decide), if_neg (show kAfter ≠ kWall by decide), if_neg (show kAfter ≠ kPrio by decide), if_neg (show kAfter ≠ kArray by decide), if_neg (show kAfter ≠ kRetries by decide), if_neg (show kAfter ≠ kHeld by decide), rowN_list q4 ha, Option.map_some]
    simp only [updP, snoc_yes, if_true, snoc_not (show kUser ≠ kAfter by decide), snoc_not (show kPart ≠ kAfter by decide), snoc_not (show kNodes ≠ kAfter by decide), snoc_not (show kDemand ≠ kAfter by decide), snoc_not (show kWall ≠ kAfter by decide), snoc_not (show kPrio ≠ kAfter by decide), snoc_not (show kArray ≠ kAfter by decide), snoc_not (show kRetries ≠ kAfter by decide), snoc_not (show kHeld ≠ kAfter by decide)]
theorem keys_not {k : ByteArray} (h : k ∈ keysL) : (61 : UInt8) ∉ k.data.toList ∧ (32 : UInt8) ∉ k.data.toList := by
  simp only [keysL, List.mem_cons, List.not_mem_nil, or_false] at h
  rcases h with rfl | rfl | rfl | rfl | rfl | rfl | rfl | rfl | rfl | rfl <;> exact ⟨by decide, by decide⟩
theorem pair_key {s : Spp} {p : ByteArray × List UInt8} (h : p ∈ pairsS s) : p.1 ∈ keysL := by
  rcases pairs_cases h with rfl | rfl | rfl | rfl | rfl | rfl | rfl | rfl | ⟨_, rfl⟩ | ⟨_, rfl⟩ <;> simp [keysL]
theorem key_not {s : Spp} {p : ByteArray × List UInt8} (h : p ∈ pairsS s) : (61 : UInt8) ∉ p.1.data.toList ∧ (32 : UInt8) ∉ p.1.data.toList := keys_not (pair_key h)
theorem parse_pairs {s : Spp} (hs : mayS s = true) (u : Spp) : ∀ (L : List (ByteArray × List UInt8)) (met : List ByteArray), (∀ p, p ∈ L → p ∈ pairsS s) → (keysE L).Nodup → (∀ p, p ∈ L → p.1 ∉ met) →
    parseW (L.map fun p => ofL (kv p.1 p.2)) met (updP met s u) = .inl (met ++ keysE L, updP (met ++ keysE L) s u)
  | [], met, _, _, _ => by
    simp [keysE, parseW]
  | p :: L, met, h1, h2, h3 => by
    have hp := h1 p (by simp)
    have hst : stepP met (updP met s u) (ofL (kv p.1 p.2)) = some (p.1, updP (met ++ [p.1]) s u) := by
      unfold stepP
      rw [keyVal_kv (key_not hp).1]
      show (if memB met p.1 = true then none else _) = _
      rw [if_neg (fun c => h3 p (by simp) (memB_iff.1 c)), setP_pair hs hp u]
      rfl
    have h2' := List.nodup_cons.1 (show (p.1 :: keysE L).Nodup from h2)
    have ih := parse_pairs hs u L (met ++ [p.1]) (fun q hq => h1 q (by simp [hq])) h2'.2 (fun q hq c => by
      rcases List.mem_append.1 c with c | c
      · exact h3 q (by simp [hq]) c
      · refine h2'.1 ?_
        rw [← (show q.1 = p.1 by simpa using c)]
        exact List.mem_map_of_mem hq)
    rw [List.map_cons, parseW, hst]
    show parseW _ _ _ = _
    rw [ih]
    simp [keysE]
theorem pairs_nodup (s : Spp) : (keysE (pairsS s)).Nodup := by
  unfold pairsS
  split <;> split <;> split <;> split <;> split <;> (simp only [keysE, List.map_cons, List.map_nil, List.append_nil, List.nil_append, List.cons_append]; decide)
theorem pairs_first {s : Spp} {k : ByteArray} (h : k = kUser ∨ k = kPart ∨ k = kNodes ∨ k = kDemand ∨ k = kWall) : k ∈ keysE (pairsS s) := by
  unfold pairsS keysE
  simp only [List.map_append, List.mem_append, List.map_cons, List.map_nil]
  refine .inl (.inl (.inl (.inl (.inl ?_))))
  rcases h with rfl | rfl | rfl | rfl | rfl <;> simp
theorem pairs_prio {s : Spp} (h : s.prio ≠ 0) : kPrio ∈ keysE (pairsS s) := by
  unfold pairsS keysE
  simp only [List.map_append, List.mem_append]
  refine .inl (.inl (.inl (.inl (.inr ?_))))
  rw [if_neg h]; simp
theorem pairs_array {s : Spp} (h : s.array ≠ 1) : kArray ∈ keysE (pairsS s) := by
  unfold pairsS keysE
  simp only [List.map_append, List.mem_append]
  refine .inl (.inl (.inl (.inr ?_)))
  rw [if_neg h]; simp
theorem pairs_retries {s : Spp} (h : s.retries ≠ 0) : kRetries ∈ keysE (pairsS s) := by
  unfold pairsS keysE
  simp only [List.map_append, List.mem_append]
  refine .inl (.inl (.inr ?_))
  rw [if_neg h]; simp
theorem pairs_held {s : Spp} (h : s.held = true) : kHeld ∈ keysE (pairsS s) := by
  unfold pairsS keysE
  simp only [List.map_append, List.mem_append]
  refine .inl (.inr ?_)
  rw [if_pos h]; simp
theorem pairs_after {s : Spp} (h : s.after ≠ []) : kAfter ∈ keysE (pairsS s) := by
  unfold pairsS keysE
  simp only [List.map_append, List.mem_append]
  refine .inr ?_
  rw [if_neg h]; simp
theorem updP_all {s : Spp} {ks : List ByteArray} (h : ∀ k, k ∈ keysE (pairsS s) → k ∈ ks) : updP ks s Spp.one = s := by
  obtain ⟨user, part, nodes, dem, wall, prio, array, retries, held, after⟩ := s
  replace h : ∀ k, k ∈ keysE (pairsS ⟨user, part, nodes, dem, wall, prio, array, retries, held, after⟩) → memB ks k = true := fun k hk => memB_iff.2 (h k hk)
  unfold updP
  rw [if_pos (h _ (pairs_first (.inl rfl))), if_pos (h _ (pairs_first (.inr (.inl rfl)))), if_pos (h _ (pairs_first (.inr (.inr (.inl rfl))))), if_pos (h _ (pairs_first (.inr (.inr (.inr (.inl rfl)))))), if_pos (h _ (pairs_first (.inr (.inr (.inr (.inr rfl))))))]
  have e1 : (if memB ks kPrio = true then prio else Spp.one.prio) = prio := by
    split
    · rfl
    · next c => exact Decidable.byContradiction fun d => c (h _ (pairs_prio (fun e => d e.symm)))
  have e2 : (if memB ks kArray = true then array else Spp.one.array) = array := by
    split
    · rfl
    · next c => exact Decidable.byContradiction fun d => c (h _ (pairs_array (fun e => d e.symm)))
  have e3 : (if memB ks kRetries = true then retries else Spp.one.retries) = retries := by
    split
    · rfl
    · next c => exact Decidable.byContradiction fun d => c (h _ (pairs_retries (fun e => d e.symm)))
  have e4 : (if memB ks kHeld = true then held else Spp.one.held) = held := by
    split
    · rfl
    · next c =>
      cases held with
      | false => rfl
      | true => exact absurd (h _ (pairs_held rfl)) c
  have e5 : (if memB ks kAfter = true then after else Spp.one.after) = after := by
    split
    · rfl
    · next c => exact Decidable.byContradiction fun d => c (h _ (pairs_after (fun e => d e.symm)))
  simp only [e1, e2, e3, e4, e5]
theorem itoa_bd {n : Int} (h0 : -1099511627776 ≤ n) (h1 : n ≤ 1099511627776) : (Lib.itoa n).length ≤ 20 := itoa_len (by omega) (by omega)
theorem kv_len (k : ByteArray) (v : List UInt8) : (kv k v).length = k.size + 1 + v.length := by
  unfold kv
  rw [List.length_append, List.length_cons, toL_len]
  omega
theorem listT_len {l : List Int} (h : waitsL l = true) : (listT l).length ≤ 168 := by
  have h1 := inter_len [44] 20 (l.map Lib.itoa) fun x hx => by
    obtain ⟨n, hn, rfl⟩ := List.mem_map.1 hx
    have := okw_bd (waits_all h n hn)
    exact itoa_bd (by omega) (by omega)
  rw [List.length_map] at h1
  have h2 := waits_len h
  have : l.length * (20 + [(44 : UInt8)].length) ≤ 8 * 21 := Nat.mul_le_mul h2 (Nat.le_refl _)
  exact Nat.le_trans h1 this
theorem pair_len {s : Spp} (hs : mayS s = true) {p : ByteArray × List UInt8} (h : p ∈ pairsS s) : (kv p.1 p.2).length ≤ 180 := by
  obtain ⟨q1, q2, q3, q4, q5, q6, q7, q8, q9⟩ := mayS_parts hs
  have d := demOk_iff.1 q3
  have a1 := isName_le q1
  have a2 := isName_le q2
  have a3 := txtV_len (v64_cap (capOk_right d.1))
  have a4 := listT_len q4
  have b5 := betw_iff.1 q5
  have b6 := betw_iff.1 q6
  have b7 := betw_iff.1 q7
  have b8 := betw_iff.1 q8
  have b9 := betw_iff.1 q9
  have c5 := itoa_bd (n := s.nodes) (by omega) (by omega)
  have c6 := itoa_bd (n := s.wall) (by omega) (by omega)
  have c7 := itoa_bd (n := s.prio) (by omega) (by omega)
  have c8 := itoa_bd (n := s.array) (by omega) (by omega)
  have c9 := itoa_bd (n := s.retries) (by omega) (by omega)
  rw [kv_len]
  rcases pairs_cases h with rfl | rfl | rfl | rfl | rfl | rfl | rfl | rfl | ⟨_, rfl⟩ | ⟨_, rfl⟩
  · show 4 + 1 + s.user.data.toList.length ≤ 180; rw [toL_len]; omega
  · show 4 + 1 + s.part.data.toList.length ≤ 180; rw [toL_len]; omega
  · show 5 + 1 + (Lib.itoa s.nodes).length ≤ 180; omega
  · show 6 + 1 + (txtV s.dem).length ≤ 180; omega
  · show 4 + 1 + (Lib.itoa s.wall).length ≤ 180; omega
  · show 4 + 1 + (Lib.itoa s.prio).length ≤ 180; omega
  · show 5 + 1 + (Lib.itoa s.array).length ≤ 180; omega
  · show 7 + 1 + (Lib.itoa s.retries).length ≤ 180; omega
  · show 4 + 1 + 1 ≤ 180; omega
  · show 5 + 1 + (listT s.after).length ≤ 180; omega
theorem pairs_len (s : Spp) : (pairsS s).length ≤ 10 := by
  unfold pairsS
  simp only [List.length_append, List.length_cons, List.length_nil]
  split <;> split <;> split <;> split <;> split <;> simp
theorem pairs_ne (s : Spp) : pairsS s ≠ [] := by unfold pairsS; simp
theorem pair_not {s : Spp} (hs : mayS s = true) {p : ByteArray × List UInt8} (h : p ∈ pairsS s) : (32 : UInt8) ∉ kv p.1 p.2 := by
  obtain ⟨q1, q2, q3, q4, q5, q6, q7, q8, q9⟩ := mayS_parts hs
  have d := demOk_iff.1 q3
  have key : (32 : UInt8) ∉ p.2 := by
    rcases pairs_cases h with rfl | rfl | rfl | rfl | rfl | rfl | rfl | rfl | ⟨_, rfl⟩ | ⟨_, rfl⟩
    · exact name_not q1 (by decide)
    · exact name_not q2 (by decide)
    · exact itoa_any_not (by decide)
    · exact txt_not d.1 (by decide)
    · exact itoa_any_not (by decide)
    · exact itoa_any_not (by decide)
    · exact itoa_any_not (by decide)
    · exact itoa_any_not (by decide)
    · show (32 : UInt8) ∉ [49]; decide
    · intro hm
      have : ∀ (xs : List (List UInt8)), (∀ x, x ∈ xs → (32 : UInt8) ∉ x) → (32 : UInt8) ∉ List.intercalate [44] xs := by
        intro xs
        induction xs with
        | nil => intro _; simp [List.intercalate]
        | cons x r ih =>
          intro hx
          cases r with
          | nil => rw [show List.intercalate [44] [x] = x by simp [List.intercalate]]; exact hx x (by simp)
          | cons y r =>
            rw [show List.intercalate [44] (x :: y :: r) = x ++ 44 :: List.intercalate [44] (y :: r) by simp [List.intercalate]]
            intro hm
            rcases List.mem_append.1 hm with h | h
            · exact hx x (by simp) h
            · rcases List.mem_cons.1 h with h | h
              · exact absurd h (by decide)
              · exact ih (fun z hz => hx z (by simp at hz ⊢; exact .inr hz)) h
      refine this (s.after.map Lib.itoa) (fun x hx => ?_) hm
      obtain ⟨n, _, rfl⟩ := List.mem_map.1 hx
      exact itoa_any_not (by decide)
  intro hm
  unfold kv at hm
  rcases List.mem_append.1 hm with h1 | h1
  · exact (key_not h).2 h1
  · rcases List.mem_cons.1 h1 with h1 | h1
    · exact absurd h1 (by decide)
    · exact key h1
def kvs (L : List (ByteArray × List UInt8)) : List (List UInt8) := L.map fun p => kv p.1 p.2
theorem join_size {s : Spp} (hs : mayS s = true) {L : List (ByteArray × List UInt8)} (h : ∀ p, p ∈ L → p ∈ pairsS s) (hl : L.length ≤ 10) : (Lib.join (kvs L) [32]).length ≤ 1810 := by
  have h1 := inter_len [32] 180 (kvs L) fun x hx => by
    obtain ⟨p, hp, rfl⟩ := List.mem_map.1 hx
    exact pair_len hs (h p hp)
  unfold kvs at h1
  rw [List.length_map] at h1
  have : L.length * (180 + [(32 : UInt8)].length) ≤ 10 * 181 := Nat.mul_le_mul hl (Nat.le_refl _)
  exact Nat.le_trans h1 this
theorem words_join {s : Spp} (hs : mayS s = true) {L : List (ByteArray × List UInt8)} (h : ∀ p, p ∈ L → p ∈ pairsS s) (hne : L ≠ []) : words (ofL (Lib.join (kvs L) [32])) = L.map fun p => ofL (kv p.1 p.2) := by
  unfold words
  rw [ofL_toL, cutAll_join (by unfold kvs; simpa using hne) (fun w hw => by
    obtain ⟨p, hp, rfl⟩ := List.mem_map.1 hw
    exact pair_not hs (h p hp))]
  unfold kvs
  rw [List.map_map]
  rfl
/-- a spec's words in any order are read as it -/
theorem parse_perm {s : Spp} (hs : mayS s = true) {L : List (ByteArray × List UInt8)} (hL : L.Perm (pairsS s)) : parseOf (ofL (Lib.join (kvs L) [32])) = (s, 0, 0) := by
  have hm : ∀ p, p ∈ L → p ∈ pairsS s := fun p hp => hL.mem_iff.1 hp
  have hlen : L.length ≤ 10 := by rw [hL.length_eq]; exact pairs_len s
  have hne : L ≠ [] := fun e => by
    have := hL.length_eq
    rw [e] at this
    exact pairs_ne s (List.length_eq_zero_iff.1 this.symm)
  have hsz := join_size hs hm hlen
  unfold parseOf
  rw [if_neg (by rw [ofL_size]; omega), words_join hs hm hne]
  have hk : (keysE L).Perm (keysE (pairsS s)) := hL.map _
  have h := parse_pairs hs Spp.one L [] hm (hk.nodup_iff.2 (pairs_nodup s)) (fun p _ c => by simp at c)
  have hu : updP [] s Spp.one = Spp.one := rfl
  rw [hu, List.nil_append, updP_all (s := s) (ks := keysE L) fun k hk' => hk.mem_iff.2 hk'] at h
  rw [h]
  have h5 : five (keysE L) = true := by
    have m : ∀ k, (k = kUser ∨ k = kPart ∨ k = kNodes ∨ k = kDemand ∨ k = kWall) → memB (keysE L) k = true := fun k h => memB_iff.2 (hk.mem_iff.2 (pairs_first h))
    simp [five, m]
  simp only [endP]
  rw [if_pos h5]
theorem textS_may {s : Spp} (hs : mayS s = true) : textS s = Lib.join (kvs (pairsS s)) [32] := if_pos hs
theorem parse_text {s : Spp} (hs : mayS s = true) : parseOf (ofL (textS s)) = (s, 0, 0) := by
  rw [textS_may hs]
  exact parse_perm hs (List.Perm.refl _)
end Go.Proofs.YteoihdkaoipocaaDoor

/- corveeref03.Right: whether an amount may be. -/
namespace Go.Proofs.YteoihdkaoipocaaDoor
open Go.RowKit

end Go.Proofs.YteoihdkaoipocaaDoor

/- Which specs may be: corveeref01.In; corveeref08.within, after, demand, May, Check; spec.waits, spec.Check. -/
namespace Go.Proofs.YteoihdkaoipocaaDoor
open Go.RowKit Go.Maps Go.Shelf

theorem IntsAt.take {w : World} {b off n : Nat} {xs : List Int} (h : IntsAt w (some ⟨b, off, none⟩) n xs) {k : Nat} (hk : k ≤ n) : IntsAt w (some ⟨b, off, none⟩) k (xs.take k) :=
  ⟨by rw [List.length_take, h.len]; omega, by have := h.max; omega, fun i x hx => by
    obtain ⟨b', off', e, hlt, hc⟩ := h.cell i x (by
      rw [List.getElem?_take] at hx
      split at hx
      · exact hx
      · cases hx)
    exact ⟨b', off', e, hlt, hc⟩⟩

theorem between_any (n lo hi : Int) (w : World) : Calls Tryd.prog 69 #[.int .i64 n, .int .i64 lo, .int .i64 hi] w fun e w' => e = .returned (.bool (betw n lo hi)) ∧ w' = w := by
  by_cases a : lo ≤ n
  · have d : decide (lo ≤ n) = true := decide_eq_true a
    by_cases b : n ≤ hi
    · have d2 : decide (n ≤ hi) = true := decide_eq_true b
      have hz : betw n lo hi = true := betw_iff.2 ⟨a, b⟩
      replace a := Lib.hid a; replace b := Lib.hid b; replace hz := Lib.hid hz
      go_enter Tryd.func69, Tryd.ntmps69
      go_wp2
      go_ret
      exact ⟨by rw [hz.out]; rfl, rfl⟩
    · have d2 : decide (n ≤ hi) = false := decide_eq_false b
      have hz : betw n lo hi = false := by rw [Bool.eq_false_iff]; exact fun c => b (betw_iff.1 c).2
      replace a := Lib.hid a; replace b := Lib.hid b; replace hz := Lib.hid hz
      go_enter Tryd.func69, Tryd.ntmps69
      go_wp2
      go_ret
      exact ⟨by rw [hz.out]; rfl, rfl⟩
  · have d : decide (lo ≤ n) = false := decide_eq_false a
    have hz : betw n lo hi = false := by rw [Bool.eq_false_iff]; exact fun c => a (betw_iff.1 c).1
    replace a := Lib.hid a; replace hz := Lib.hid hz
    go_enter Tryd.func69, Tryd.ntmps69
    go_wp2
    go_ret
    exact ⟨by rw [hz.out]; rfl, rfl⟩

theorem contains_int_call (w : World) (b off n c : Nat) (xs : List Int) (x : Int) (h : IntsAt w (some ⟨b, off, none⟩) n xs) (k : Nat) (hk : k ≤ n) : Calls Tryd.prog 115 #[.slice (some ⟨b, off, none⟩) k c, .int .i64 x] w fun e w' => e = .returned (.bool (memI (xs.take k) x)) ∧ w' = w := by
  have hl := h.len
  have hm := h.max
  refine (Tryd.slices_Contains_int b off k c xs x w (by omega) (by omega) fun j hj => ?_).mono ?_
  · obtain ⟨b', off', e, _, hc⟩ := h.cell j (xs[j]'hj) (by simp [hj])
    cases e
    rw [hc]
    simp [List.getD, hj]
  · rintro e w' ⟨rfl, rfl⟩
    have : (xs.take k).contains x = memI (xs.take k) x := by
      rw [Bool.eq_iff_iff, memI_iff, List.contains_iff_mem]
    rw [this]
    exact ⟨rfl, rfl⟩

theorem waits_long {l : List Int} (h : 8 < l.length) : waitsL l = false := by
  unfold waitsL
  rw [show decide (l.length ≤ 8) = false from decide_eq_false (by omega)]; rfl
theorem waits_no {l : List Int} {k : Nat} (hk : k < l.length) (h : (okw (l.getD k 0) && !memI (l.take k) (l.getD k 0)) = false) : waitsL l = false := by
  unfold waitsL
  rw [waitTo_no hk h, Bool.and_false]
theorem waits_yes {l : List Int} (hl : l.length ≤ 8) (h : waitTo l l.length = true) : waitsL l = true := by
  unfold waitsL
  rw [h, show decide (l.length ≤ 8) = true from decide_eq_true hl]; rfl
theorem okw_no {x : Int} (h : x = 0 ∨ x < -8 ∨ 1099511627776 < x) : okw x = false := by
  rw [Bool.eq_false_iff]
  intro c
  have := okw_bd c
  omega
theorem okw_yes {x : Int} (h0 : x ≠ 0) (h1 : -8 ≤ x) (h2 : x ≤ 1099511627776) : okw x = true := by
  simp only [okw, Bool.and_eq_true, decide_eq_true_eq]
  exact ⟨⟨h0, h1⟩, h2⟩
set_option maxRecDepth 100000 in
set_option maxHeartbeats 1600000 in
theorem waits_any (so : Option Addr) (n c : Nat) (xs : List Int) (w : World) (h : IntsAt w so n xs) (hnc : n ≤ c) : Calls Tryd.prog 71 #[.slice so n c] w fun e w' => e = .returned (.bool (waitsL xs)) ∧ w' = w := by
  obtain ⟨i3, hi3, hz3, hz31, hz32⟩ := info_parts info3
  have hlen := h.len
  have hmax := h.max
  by_cases h8 : 8 < n
  · have d : decide ((8 : Int) < n) = true := decide_eq_true (by omega)
    have hz : waitsL xs = false := waits_long (by rw [hlen]; exact h8)
    replace h := Lib.hid h; replace hlen := Lib.hid hlen; replace hz := Lib.hid hz; replace h8 := Lib.hid h8; replace hi3 := Lib.hid hi3; replace hz3 := Lib.hid hz3; replace hz31 := Lib.hid hz31; replace hz32 := Lib.hid hz32
    go_enter Tryd.func71, Tryd.ntmps71
    go_wp2
    go_ret
    exact ⟨by rw [hz.out]; rfl, rfl⟩
  have d : decide ((8 : Int) < n) = false := decide_eq_false (by omega)
  have d' : decide (8 < n) = false := decide_eq_false h8
  replace h := Lib.hid h; replace hlen := Lib.hid hlen; replace hi3 := Lib.hid hi3; replace hz3 := Lib.hid hz3; replace hz31 := Lib.hid hz31; replace hz32 := Lib.hid hz32
  go_enter Tryd.func71, Tryd.ntmps71
  go_wp2
  clear d d'
  go_loopw [3, 4, 10] (fun _ _ i wr => ∃ k : Nat, i = .int .i64 k ∧ k ≤ n ∧ Hid (waitTo xs k = true) ∧ wr = w) (fun _ _ i _ => n - (intOf i).toNat)
  case atStart => exact ⟨0, rfl, Nat.zero_le _, rfl, rfl⟩
  case round =>
    obtain ⟨k, rfl, hk, hall, rfl⟩ := hrel
    by_cases hc : k < n
    · have hc1 : (k : Int) < n := by omega
      have hk0 : (0 : Int) ≤ (k : Int) := by omega
      obtain ⟨y, hy⟩ := h.out.get hc
      obtain ⟨b, off, rfl, hb, a0⟩ := h.out.cell k y hy
      have hgd : xs.getD k 0 = y := by rw [List.getD, hy]; rfl
      by_cases q0 : y = 0
      · have d : (y == 0) = true := by simp [q0]
        have hno : (okw (xs.getD k 0) && !memI (xs.take k) (xs.getD k 0)) = false := by rw [hgd, okw_no (.inl q0)]; rfl
        replace hy := Lib.hid hy; replace hgd := Lib.hid hgd; replace hno := Lib.hid hno; replace q0 := Lib.hid q0
        have hz : waitsL xs = false := waits_no (k := k) (by rw [hlen.out]; exact hc) hno.out
        replace hz := Lib.hid hz
        go_wp2
        go_ret
        exact ⟨by rw [hz.out]; rfl, rfl⟩
      have d : (y == 0) = false := by simp [q0]
      by_cases q1 : y < -8
      · have d1 : decide (y < -8) = true := decide_eq_true q1
        have hno : (okw (xs.getD k 0) && !memI (xs.take k) (xs.getD k 0)) = false := by rw [hgd, okw_no (.inr (.inl q1))]; rfl
        replace hy := Lib.hid hy; replace hgd := Lib.hid hgd; replace hno := Lib.hid hno; replace q0 := Lib.hid q0; replace q1 := Lib.hid q1
        have hz : waitsL xs = false := waits_no (k := k) (by rw [hlen.out]; exact hc) hno.out
        replace hz := Lib.hid hz
        go_wp2
        go_ret
        exact ⟨by rw [hz.out]; rfl, rfl⟩
      have d1 : decide (y < -8) = false := decide_eq_false q1
      by_cases q2 : 1099511627776 < y
      · have d2 : decide (1099511627776 < y) = true := decide_eq_true q2
        have hno : (okw (xs.getD k 0) && !memI (xs.take k) (xs.getD k 0)) = false := by rw [hgd, okw_no (.inr (.inr q2))]; rfl
        replace hy := Lib.hid hy; replace hgd := Lib.hid hgd; replace hno := Lib.hid hno; replace q0 := Lib.hid q0; replace q1 := Lib.hid q1; replace q2 := Lib.hid q2
        have hz : waitsL xs = false := waits_no (k := k) (by rw [hlen.out]; exact hc) hno.out
        replace hz := Lib.hid hz
        go_wp2
        go_ret
        exact ⟨by rw [hz.out]; rfl, rfl⟩
      have d2 : decide (1099511627776 < y) = false := decide_eq_false q2
      have hsl := fun w => slice_upto_g Tryd.underlying26 hi3.out ⟨b, off, none⟩ n c k k rfl (by omega) w
      have hcc := contains_int_call wr b off n c xs y h.out k (by omega)
      obtain ⟨m, hm⟩ : ∃ m, m = memI (xs.take k) y := ⟨_, rfl⟩
      rw [← hm] at hcc
      have hok := okw_yes q0 (by omega) (by omega)
      replace hy := Lib.hid hy; replace hgd := Lib.hid hgd; replace q0 := Lib.hid q0; replace q1 := Lib.hid q1; replace q2 := Lib.hid q2; replace hcc := Lib.hid hcc; replace hm := Lib.hid hm; replace hok := Lib.hid hok
      go_wp2_with fail
      refine hcc.out.mono ?_
      rintro e w2 ⟨rfl, rfl⟩
      cases m with
      | true =>
        have hno : (okw (xs.getD k 0) && !memI (xs.take k) (xs.getD k 0)) = false := by rw [hgd.out, ← hm.out]; simp
        replace hno := Lib.hid hno
        have hz : waitsL xs = false := waits_no (k := k) (by rw [hlen.out]; exact hc) hno.out
        replace hz := Lib.hid hz
        go_wp2
        go_ret
        exact ⟨by rw [hz.out]; rfl, rfl⟩
      | false =>
        have hy2 : waitTo xs (k + 1) = true := by
          simp only [waitTo, hgd.out, ← hm.out, hok.out, hall.out]; rfl
        replace hy2 := Lib.hid hy2
        go_wp2
        go_roundw
        case rel => exact ⟨k + 1, by go_num, by omega, hy2.out, trivial⟩
        case measure => simp [intOf]; omega
    · have hc1 : ¬ (k : Int) < n := by omega
      have hkn : k = n := by omega
      subst hkn
      have hz : waitsL xs = true := waits_yes (by rw [hlen.out]; omega) (by rw [hlen.out]; exact hall.out)
      replace hz := Lib.hid hz
      go_wp2
      go_ret
      exact ⟨by rw [hz.out]; rfl, rfl⟩
end Go.Proofs.YteoihdkaoipocaaDoor

/- A spec in memory; corveeref08.demand, May, Check; spec.Check. -/
namespace Go.Proofs.YteoihdkaoipocaaDoor
open Go.RowKit Go.Maps Go.Shelf

/-- a spec in memory -/
structure Spv where
  pl : Spp
  so : Option Addr
  n : Nat
  c : Nat
abbrev Spv.cells (x : Spv) : Array Value := #[.string x.pl.user, .string x.pl.part, .int .i64 x.pl.nodes, .int .i64 x.pl.dem.a, .int .i64 x.pl.dem.b, .int .i64 x.pl.dem.c, .int .i64 x.pl.dem.d, .int .i64 x.pl.wall, .int .i64 x.pl.prio, .int .i64 x.pl.array, .int .i64 x.pl.retries, .bool x.pl.held, .slice x.so x.n x.c]
abbrev Spv.val (x : Spv) : Value := .agg #[.string x.pl.user, .string x.pl.part, .int .i64 x.pl.nodes, .int .i64 x.pl.dem.a, .int .i64 x.pl.dem.b, .int .i64 x.pl.dem.c, .int .i64 x.pl.dem.d, .int .i64 x.pl.wall, .int .i64 x.pl.prio, .int .i64 x.pl.array, .int .i64 x.pl.retries, .bool x.pl.held, .slice x.so x.n x.c]
structure Spv.ok (w : World) (x : Spv) : Prop where
  after : IntsAt w x.so x.n x.pl.after
  ple : x.n ≤ x.c
  user : x.pl.user.size ≤ maxLen
  part : x.pl.part.size ≤ maxLen
theorem Spv.ok.low {w w' : World} {x : Spv} (h : x.ok w) (hb : Below w.heap.size w w') : x.ok w' := ⟨h.after.low hb, h.ple, h.user, h.part⟩
def Spv.zero : Spv := ⟨Spp.zero, none, 0, 0⟩
theorem ints_none (w : World) : IntsAt w none 0 [] := ⟨rfl, by omega, fun i x h => by simp at h⟩
theorem Spv.zero_ok (w : World) : Spv.zero.ok w := ⟨ints_none w, Nat.le_refl _, Nat.zero_le _, Nat.zero_le _⟩
/-- the error of a spec -/
def errS (s : Spp) : Int := if mayS s = true then 0 else 80

/-- a spec's box, made by a call -/
structure BoxC (w : World) (x : Spv) (wr : World) : Prop where
  low : Below w.heap.size w wr
  box : wr.heap[w.heap.size]? = some (.cells x.cells 28 (0, 0))
theorem BoxC.below {w wr w' : World} {x : Spv} (h : BoxC w x wr) (hb : Below wr.heap.size wr w') : BoxC w x w' :=
  ⟨h.low.trans (hb.mono h.low.size), blk_below hb h.box (blk_lt h.box)⟩
theorem BoxC.new (w : World) (x : Spv) : BoxC w x (w.alloc (.cells x.cells 28 (0, 0))) := ⟨(Below.refl _ _).alloc (Nat.le_refl _) _, blk_new _ _⟩
theorem BoxC.ok {w wr : World} {x : Spv} (h : BoxC w x wr) (hx : x.ok w) : x.ok wr := hx.low h.low
set_option maxRecDepth 100000 in
set_option maxHeartbeats 3200000 in
theorem check_any (x : Spv) (w : World) (hx : x.ok w) : Calls Tryd.prog 25 #[x.val] w fun e w' => e = .returned (.int .i64 (errS x.pl)) ∧ Below w.heap.size w w' := by
  have hB0 := BoxC.new w x
  obtain ⟨⟨user, part, nodes, ⟨da, db, dc, dd⟩, wall, prio, array, retries, held, after⟩, so, n, cp⟩ := x
  obtain ⟨b1, hb1⟩ : ∃ b, b = isName user := ⟨_, rfl⟩
  obtain ⟨b2, hb2⟩ : ∃ b, b = isName part := ⟨_, rfl⟩
  obtain ⟨b4, hb4⟩ : ∃ b, b = waitsL after := ⟨_, rfl⟩
  obtain ⟨b5, hb5⟩ : ∃ b, b = betw nodes 1 16 := ⟨_, rfl⟩
  obtain ⟨b6, hb6⟩ : ∃ b, b = betw wall 1 1000 := ⟨_, rfl⟩
  obtain ⟨b7, hb7⟩ : ∃ b, b = betw prio 0 100 := ⟨_, rfl⟩
  obtain ⟨b8, hb8⟩ : ∃ b, b = betw array 1 20 := ⟨_, rfl⟩
  obtain ⟨b9, hb9⟩ : ∃ b, b = betw retries 0 5 := ⟨_, rfl⟩
  have hcr := right_any ⟨da, db, dc, dd⟩
  obtain ⟨r, hr⟩ : ∃ r, r = V4.right ⟨da, db, dc, dd⟩ := ⟨_, rfl⟩
  rw [← hr] at hcr
  have hE := eq25 ⟨da, db, dc, dd⟩ ⟨0, 0, 0, 0⟩
  obtain ⟨q, hq⟩ : ∃ q, q = decide ((⟨da, db, dc, dd⟩ : V4) = ⟨0, 0, 0, 0⟩) := ⟨_, rfl⟩
  rw [← hq] at hE
  have hd : demOk ⟨da, db, dc, dd⟩ = (r && !q) := by
    unfold demOk
    rw [hr, hq, ← decide_not]; rfl
  have hz : errS ⟨user, part, nodes, ⟨da, db, dc, dd⟩, wall, prio, array, retries, held, after⟩ = if (b1 && b2 && (r && !q) && b4 && b5 && b6 && b7 && b8 && b9) = true then 0 else 80 := by
    rw [hb1, hb2, ← hd, hb4, hb5, hb6, hb7, hb8, hb9]; rfl
  have k1 : ∀ W, Calls Tryd.prog 19 #[.string user] W fun e w' => e = .returned (.bool b1) ∧ Below W.heap.size W w' := fun W => by rw [hb1]; exact name_any user W hx.user
  have k2 : ∀ W, Calls Tryd.prog 19 #[.string part] W fun e w' => e = .returned (.bool b2) ∧ Below W.heap.size W w' := fun W => by rw [hb2]; exact name_any part W hx.part
  have k4 : ∀ W, BoxC w ⟨⟨user, part, nodes, ⟨da, db, dc, dd⟩, wall, prio, array, retries, held, after⟩, so, n, cp⟩ W → Calls Tryd.prog 71 #[.slice so n cp] W fun e w' => e = .returned (.bool b4) ∧ w' = W := fun W hW => by rw [hb4]; exact waits_any so n cp after W (hW.ok hx).after hx.ple
  have k5 : ∀ W, Calls Tryd.prog 69 #[.int .i64 nodes, .int .i64 1, .int .i64 16] W fun e w' => e = .returned (.bool b5) ∧ w' = W := fun W => by rw [hb5]; exact between_any _ _ _ W
  have k6 : ∀ W, Calls Tryd.prog 69 #[.int .i64 wall, .int .i64 1, .int .i64 1000] W fun e w' => e = .returned (.bool b6) ∧ w' = W := fun W => by rw [hb6]; exact between_any _ _ _ W
  have k7 : ∀ W, Calls Tryd.prog 69 #[.int .i64 prio, .int .i64 0, .int .i64 100] W fun e w' => e = .returned (.bool b7) ∧ w' = W := fun W => by rw [hb7]; exact between_any _ _ _ W
  have k8 : ∀ W, Calls Tryd.prog 69 #[.int .i64 array, .int .i64 1, .int .i64 20] W fun e w' => e = .returned (.bool b8) ∧ w' = W := fun W => by rw [hb8]; exact between_any _ _ _ W
  have k9 : ∀ W, Calls Tryd.prog 69 #[.int .i64 retries, .int .i64 0, .int .i64 5] W fun e w' => e = .returned (.bool b9) ∧ w' = W := fun W => by rw [hb9]; exact between_any _ _ _ W
  clear hb1 hb2 hr hq hd hb4 hb5 hb6 hb7 hb8 hb9
  have c0 : (w.alloc (.cells (⟨⟨user, part, nodes, ⟨da, db, dc, dd⟩, wall, prio, array, retries, held, after⟩, so, n, cp⟩ : Spv).cells 28 (0, 0))).cell? ⟨w.heap.size, 0, none⟩ = some (.string user) := blk_cell hB0.box 0
  have c1 : (w.alloc (.cells (⟨⟨user, part, nodes, ⟨da, db, dc, dd⟩, wall, prio, array, retries, held, after⟩, so, n, cp⟩ : Spv).cells 28 (0, 0))).cell? ⟨w.heap.size, 1, none⟩ = some (.string part) := blk_cell hB0.box 1
  have c2 : (w.alloc (.cells (⟨⟨user, part, nodes, ⟨da, db, dc, dd⟩, wall, prio, array, retries, held, after⟩, so, n, cp⟩ : Spv).cells 28 (0, 0))).cell? ⟨w.heap.size, 2, none⟩ = some (.int .i64 nodes) := blk_cell hB0.box 2
  have c3 : (w.alloc (.cells (⟨⟨user, part, nodes, ⟨da, db, dc, dd⟩, wall, prio, array, retries, held, after⟩, so, n, cp⟩ : Spv).cells 28 (0, 0))).cell? ⟨w.heap.size, 3, none⟩ = some (.int .i64 da) := blk_cell hB0.box 3
  have c4 : (w.alloc (.cells (⟨⟨user, part, nodes, ⟨da, db, dc, dd⟩, wall, prio, array, retries, held, after⟩, so, n, cp⟩ : Spv).cells 28 (0, 0))).cell? ⟨w.heap.size, 4, none⟩ = some (.int .i64 db) := blk_cell hB0.box 4
  have c5 : (w.alloc (.cells (⟨⟨user, part, nodes, ⟨da, db, dc, dd⟩, wall, prio, array, retries, held, after⟩, so, n, cp⟩ : Spv).cells 28 (0, 0))).cell? ⟨w.heap.size, 5, none⟩ = some (.int .i64 dc) := blk_cell hB0.box 5
  have c6 : (w.alloc (.cells (⟨⟨user, part, nodes, ⟨da, db, dc, dd⟩, wall, prio, array, retries, held, after⟩, so, n, cp⟩ : Spv).cells 28 (0, 0))).cell? ⟨w.heap.size, 6, none⟩ = some (.int .i64 dd) := blk_cell hB0.box 6
  have c7 : (w.alloc (.cells (⟨⟨user, part, nodes, ⟨da, db, dc, dd⟩, wall, prio, array, retries, held, after⟩, so, n, cp⟩ : Spv).cells 28 (0, 0))).cell? ⟨w.heap.size, 7, none⟩ = some (.int .i64 wall) := blk_cell hB0.box 7
  have c8 : (w.alloc (.cells (⟨⟨user, part, nodes, ⟨da, db, dc, dd⟩, wall, prio, array, retries, held, after⟩, so, n, cp⟩ : Spv).cells 28 (0, 0))).cell? ⟨w.heap.size, 8, none⟩ = some (.int .i64 prio) := blk_cell hB0.box 8
  have c9 : (w.alloc (.cells (⟨⟨user, part, nodes, ⟨da, db, dc, dd⟩, wall, prio, array, retries, held, after⟩, so, n, cp⟩ : Spv).cells 28 (0, 0))).cell? ⟨w.heap.size, 9, none⟩ = some (.int .i64 array) := blk_cell hB0.box 9
  have c10 : (w.alloc (.cells (⟨⟨user, part, nodes, ⟨da, db, dc, dd⟩, wall, prio, array, retries, held, after⟩, so, n, cp⟩ : Spv).cells 28 (0, 0))).cell? ⟨w.heap.size, 10, none⟩ = some (.int .i64 retries) := blk_cell hB0.box 10
  have c11 : (w.alloc (.cells (⟨⟨user, part, nodes, ⟨da, db, dc, dd⟩, wall, prio, array, retries, held, after⟩, so, n, cp⟩ : Spv).cells 28 (0, 0))).cell? ⟨w.heap.size, 11, none⟩ = some (.bool held) := blk_cell hB0.box 11
  have c12 : (w.alloc (.cells (⟨⟨user, part, nodes, ⟨da, db, dc, dd⟩, wall, prio, array, retries, held, after⟩, so, n, cp⟩ : Spv).cells 28 (0, 0))).cell? ⟨w.heap.size, 12, none⟩ = some (.slice so n cp) := blk_cell hB0.box 12
  replace hz := Lib.hid hz; replace k1 := Lib.hid k1; replace k2 := Lib.hid k2; replace hcr := Lib.hid hcr; replace k4 := Lib.hid k4; replace k5 := Lib.hid k5; replace k6 := Lib.hid k6; replace k7 := Lib.hid k7; replace k8 := Lib.hid k8; replace k9 := Lib.hid k9; replace hx := Lib.hid hx; replace hB0 := Lib.hid hB0
  have hE' := Lib.hid hE
  clear hE
  go_enter Tryd.func25, Tryd.ntmps25
  go_wp2_with fail
  refine (k1.out _).mono ?_
  rintro e w1 ⟨rfl, hb⟩
  have hB1 := (hB0).out.below hb
  clear c0 c1 c2 c3 c4 c5 c6 c7 c8 c9 c10 c11 c12
  have c0 : w1.cell? ⟨w.heap.size, 0, none⟩ = some (.string user) := blk_cell (hB1).box 0
  have c1 : w1.cell? ⟨w.heap.size, 1, none⟩ = some (.string part) := blk_cell (hB1).box 1
  have c2 : w1.cell? ⟨w.heap.size, 2, none⟩ = some (.int .i64 nodes) := blk_cell (hB1).box 2
  have c3 : w1.cell? ⟨w.heap.size, 3, none⟩ = some (.int .i64 da) := blk_cell (hB1).box 3
  have c4 : w1.cell? ⟨w.heap.size, 4, none⟩ = some (.int .i64 db) := blk_cell (hB1).box 4
  have c5 : w1.cell? ⟨w.heap.size, 5, none⟩ = some (.int .i64 dc) := blk_cell (hB1).box 5
  have c6 : w1.cell? ⟨w.heap.size, 6, none⟩ = some (.int .i64 dd) := blk_cell (hB1).box 6
  have c7 : w1.cell? ⟨w.heap.size, 7, none⟩ = some (.int .i64 wall) := blk_cell (hB1).box 7
  have c8 : w1.cell? ⟨w.heap.size, 8, none⟩ = some (.int .i64 prio) := blk_cell (hB1).box 8
  have c9 : w1.cell? ⟨w.heap.size, 9, none⟩ = some (.int .i64 array) := blk_cell (hB1).box 9
  have c10 : w1.cell? ⟨w.heap.size, 10, none⟩ = some (.int .i64 retries) := blk_cell (hB1).box 10
  have c11 : w1.cell? ⟨w.heap.size, 11, none⟩ = some (.bool held) := blk_cell (hB1).box 11
  have c12 : w1.cell? ⟨w.heap.size, 12, none⟩ = some (.slice so n cp) := blk_cell (hB1).box 12
  replace hB1 := Lib.hid hB1; replace hb := Lib.hid hb
  clear hb
  cases b1 with
  | false =>
    go_wp2
    go_ret
    exact ⟨by rw [hz.out]; rfl, (hB1).out.low⟩
  | true =>
  go_wp2_with fail
  refine (k2.out _).mono ?_
  rintro e w2 ⟨rfl, hb⟩
  have hB2 := (hB1).out.below hb
  clear c0 c1 c2 c3 c4 c5 c6 c7 c8 c9 c10 c11 c12
  have c0 : w2.cell? ⟨w.heap.size, 0, none⟩ = some (.string user) := blk_cell (hB2).box 0
  have c1 : w2.cell? ⟨w.heap.size, 1, none⟩ = some (.string part) := blk_cell (hB2).box 1
  have c2 : w2.cell? ⟨w.heap.size, 2, none⟩ = some (.int .i64 nodes) := blk_cell (hB2).box 2
  have c3 : w2.cell? ⟨w.heap.size, 3, none⟩ = some (.int .i64 da) := blk_cell (hB2).box 3
  have c4 : w2.cell? ⟨w.heap.size, 4, none⟩ = some (.int .i64 db) := blk_cell (hB2).box 4
  have c5 : w2.cell? ⟨w.heap.size, 5, none⟩ = some (.int .i64 dc) := blk_cell (hB2).box 5
  have c6 : w2.cell? ⟨w.heap.size, 6, none⟩ = some (.int .i64 dd) := blk_cell (hB2).box 6
  have c7 : w2.cell? ⟨w.heap.size, 7, none⟩ = some (.int .i64 wall) := blk_cell (hB2).box 7
  have c8 : w2.cell? ⟨w.heap.size, 8, none⟩ = some (.int .i64 prio) := blk_cell (hB2).box 8
  have c9 : w2.cell? ⟨w.heap.size, 9, none⟩ = some (.int .i64 array) := blk_cell (hB2).box 9
  have c10 : w2.cell? ⟨w.heap.size, 10, none⟩ = some (.int .i64 retries) := blk_cell (hB2).box 10
  have c11 : w2.cell? ⟨w.heap.size, 11, none⟩ = some (.bool held) := blk_cell (hB2).box 11
  have c12 : w2.cell? ⟨w.heap.size, 12, none⟩ = some (.slice so n cp) := blk_cell (hB2).box 12
  replace hB2 := Lib.hid hB2; replace hb := Lib.hid hb
  clear hb
  cases b2 with
  | false =>
    go_wp2
    go_ret
    exact ⟨by rw [hz.out]; rfl, (hB2).out.low⟩
  | true =>
  go_wp2_with fail
  refine (hcr.out _).mono ?_
  rintro e w3 ⟨rfl, hb⟩
  have hB3 := (hB2).out.below hb
  clear c0 c1 c2 c3 c4 c5 c6 c7 c8 c9 c10 c11 c12
  have c0 : w3.cell? ⟨w.heap.size, 0, none⟩ = some (.string user) := blk_cell (hB3).box 0
  have c1 : w3.cell? ⟨w.heap.size, 1, none⟩ = some (.string part) := blk_cell (hB3).box 1
  have c2 : w3.cell? ⟨w.heap.size, 2, none⟩ = some (.int .i64 nodes) := blk_cell (hB3).box 2
  have c3 : w3.cell? ⟨w.heap.size, 3, none⟩ = some (.int .i64 da) := blk_cell (hB3).box 3
  have c4 : w3.cell? ⟨w.heap.size, 4, none⟩ = some (.int .i64 db) := blk_cell (hB3).box 4
  have c5 : w3.cell? ⟨w.heap.size, 5, none⟩ = some (.int .i64 dc) := blk_cell (hB3).box 5
  have c6 : w3.cell? ⟨w.heap.size, 6, none⟩ = some (.int .i64 dd) := blk_cell (hB3).box 6
  have c7 : w3.cell? ⟨w.heap.size, 7, none⟩ = some (.int .i64 wall) := blk_cell (hB3).box 7
  have c8 : w3.cell? ⟨w.heap.size, 8, none⟩ = some (.int .i64 prio) := blk_cell (hB3).box 8
  have c9 : w3.cell? ⟨w.heap.size, 9, none⟩ = some (.int .i64 array) := blk_cell (hB3).box 9
  have c10 : w3.cell? ⟨w.heap.size, 10, none⟩ = some (.int .i64 retries) := blk_cell (hB3).box 10
  have c11 : w3.cell? ⟨w.heap.size, 11, none⟩ = some (.bool held) := blk_cell (hB3).box 11
  have c12 : w3.cell? ⟨w.heap.size, 12, none⟩ = some (.slice so n cp) := blk_cell (hB3).box 12
  replace hB3 := Lib.hid hB3; replace hb := Lib.hid hb
  clear hb
  cases r with
  | false =>
    go_wp2
    go_ret
    exact ⟨by rw [hz.out]; rfl, (hB3).out.low⟩
  | true =>
  have hE := hE'.out
  cases q with
  | true =>
    go_wp2
    go_ret
    exact ⟨by rw [hz.out]; rfl, (hB3).out.low⟩
  | false =>
  go_wp2_with fail
  refine (k4.out _ hB3.out).mono ?_
  rintro e w4 ⟨rfl, rfl⟩
  clear hE
  cases b4 with
  | false =>
    go_wp2
    go_ret
    exact ⟨by rw [hz.out]; rfl, (hB3).out.low⟩
  | true =>
  go_wp2_with fail
  refine (k5.out _).mono ?_
  rintro e w5 ⟨rfl, rfl⟩
  cases b5 with
  | false =>
    go_wp2
    go_ret
    exact ⟨by rw [hz.out]; rfl, (hB3).out.low⟩
  | true =>
  go_wp2_with fail
  refine (k6.out _).mono ?_
  rintro e w6 ⟨rfl, rfl⟩
  cases b6 with
  | false =>
    go_wp2
    go_ret
    exact ⟨by rw [hz.out]; rfl, (hB3).out.low⟩
  | true =>
  go_wp2_with fail
  refine (k7.out _).mono ?_
  rintro e w7 ⟨rfl, rfl⟩
  cases b7 with
  | false =>
    go_wp2
    go_ret
    exact ⟨by rw [hz.out]; rfl, (hB3).out.low⟩
  | true =>
  go_wp2_with fail
  refine (k8.out _).mono ?_
  rintro e w8 ⟨rfl, rfl⟩
  cases b8 with
  | false =>
    go_wp2
    go_ret
    exact ⟨by rw [hz.out]; rfl, (hB3).out.low⟩
  | true =>
  go_wp2_with fail
  refine (k9.out _).mono ?_
  rintro e w9 ⟨rfl, rfl⟩
  cases b9 with
  | false =>
    go_wp2
    go_ret
    exact ⟨by rw [hz.out]; rfl, (hB3).out.low⟩
  | true =>
    go_wp2
    go_ret
    exact ⟨by rw [hz.out]; rfl, (hB3).out.low⟩
end Go.Proofs.YteoihdkaoipocaaDoor

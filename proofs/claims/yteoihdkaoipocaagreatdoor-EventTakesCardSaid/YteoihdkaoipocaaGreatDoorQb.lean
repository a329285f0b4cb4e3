/- Parts Fpl, Len, Fin, Fpa, Fto, Fct, Ftx, Prp, Hst, Rfl, Rfm, Rpa, Nda, Rvr, Rnd, Rre, Sma, Rft, Pbk, Sp0, Sp1, Rrt, Chk, Spv in one text. Plain theorems: no condition. -/
import Derived.Test.YteoihdkaoipocaaGreatDoorQd
import Derived.Test.YteoihdkaoipocaaGreatDoorQa
import Derived.Lib.OwnBridge
import Derived.Deep.RegionHeld3
import Derived.Deep.DeepCutAuto
import Derived.StillTailTactics
import Derived.IntWalk
import Derived.Laws.AppendOwnNone
import Derived.ChangeKeysEq
/- What a fleet answers, plain: places of a part, what its nodes have, the parts. -/
namespace Go.Proofs.YteoihdkaoipocaaGreatDoor
open Go.RowKit Go.Maps Go.Shelf

/-- where a part's nodes stand -/
def inFrom : Nat → List Ndv → ByteArray → List Int
  | _, [], _ => []
  | k, v :: vs, p => if memB v.parts p = true then (k : Int) :: inFrom (k + 1) vs p else inFrom (k + 1) vs p
def inOf (vs : List Ndv) (p : ByteArray) : List Int := inFrom 0 vs p
theorem inFrom_app (a b : List Ndv) (p : ByteArray) (k : Nat) : inFrom k (a ++ b) p = inFrom k a p ++ inFrom (k + a.length) b p := by
  induction a generalizing k with
  | nil => simp [inFrom]
  | cons v a ih =>
    simp only [List.cons_append, inFrom, List.length_cons]
    rw [ih, show k + 1 + a.length = k + (a.length + 1) by omega]
    split <;> simp
theorem take_step {α : Type} {l : List α} {k : Nat} {x : α} (h : l[k]? = some x) : l.take (k + 1) = l.take k ++ [x] := by
  rw [List.take_add_one, h]; rfl
theorem inOf_step {vs : List Ndv} {k : Nat} {v : Ndv} (p : ByteArray) (h : vs[k]? = some v) : inOf (vs.take (k + 1)) p = inOf (vs.take k) p ++ (if memB v.parts p = true then [(k : Int)] else []) := by
  have hk := (List.getElem?_eq_some_iff.1 h).1
  unfold inOf
  rw [take_step h, inFrom_app, List.length_take, Nat.min_eq_left (by omega), Nat.zero_add]
  simp only [inFrom]
theorem inOf_yes {vs : List Ndv} {k : Nat} {v : Ndv} {p : ByteArray} (h : vs[k]? = some v) (hm : memB v.parts p = true) : inOf (vs.take (k + 1)) p = inOf (vs.take k) p ++ [(k : Int)] := by
  rw [inOf_step p h, if_pos hm]
theorem inOf_no {vs : List Ndv} {k : Nat} {v : Ndv} {p : ByteArray} (h : vs[k]? = some v) (hm : memB v.parts p = false) : inOf (vs.take (k + 1)) p = inOf (vs.take k) p := by
  rw [inOf_step p h, if_neg (by rw [hm]; simp), List.append_nil]
theorem inFrom_len (vs : List Ndv) (p : ByteArray) (k : Nat) : (inFrom k vs p).length ≤ vs.length := by
  induction vs generalizing k with
  | nil => simp [inFrom]
  | cons v vs ih =>
    have := ih (k + 1)
    simp only [inFrom]
    split <;> simp <;> omega
theorem inOf_len (vs : List Ndv) (p : ByteArray) : (inOf vs p).length ≤ vs.length := inFrom_len vs p 0

/-- what a part's nodes have -/
def addV (a b : V4) : V4 := ⟨a.a + b.a, a.b + b.b, a.c + b.c, a.d + b.d⟩
def counts (v : Ndv) (p : ByteArray) : Bool := p.toList.isEmpty || memB v.parts p
def totOf (vs : List Ndv) (p : ByteArray) : V4 := vs.foldl (fun a v => if counts v p = true then addV a v.cap else a) V4.zero
/-- may an amount be? -/
structure CapOk (v : V4) : Prop where
  a0 : 0 ≤ v.a
  a1 : v.a ≤ 1073741824
  b0 : 0 ≤ v.b
  b1 : v.b ≤ 1073741824
  c0 : 0 ≤ v.c
  c1 : v.c ≤ 1073741824
  d0 : 0 ≤ v.d
  d1 : v.d ≤ 1073741824
structure UpTo (v : V4) (n : Nat) : Prop where
  a0 : 0 ≤ v.a
  a1 : v.a ≤ 1073741824 * n
  b0 : 0 ≤ v.b
  b1 : v.b ≤ 1073741824 * n
  c0 : 0 ≤ v.c
  c1 : v.c ≤ 1073741824 * n
  d0 : 0 ≤ v.d
  d1 : v.d ≤ 1073741824 * n
/-- the parts -/
def rawParts (vs : List Ndv) : List ByteArray := vs.flatMap Ndv.parts
end Go.Proofs.YteoihdkaoipocaaGreatDoor

/- (*fleet.Fleet).Len, Index. -/
namespace Go.Proofs.YteoihdkaoipocaaGreatDoor
open Go.RowKit Go.Maps

theorem fl_len {w : World} {fb mb base : Nat} {nv : Value} {xs : List Nde} (h : FlW w fb mb base nv xs) : ∀ ty w, (Builtin.len_ #[32] ty #[nv]).run Tryz.prog w = .ok (.int .i64 (xs.length : Int)) w := fun ty w => by
  rcases Joins.ownsRow_forms h.row with ⟨rfl, h0⟩ | ⟨g, cap, rfl⟩
  · rw [h0]; simp [go_sem, Tryz.underlying32]
  · simp [go_sem, Tryz.underlying32]
set_option maxRecDepth 100000 in
theorem len_any (w : World) (fb mb base : Nat) (nv : Value) (xs : List Nde) (hF : FlW w fb mb base nv xs) : Calls Tryz.prog 74 #[.pointer (some ⟨fb, 0, none⟩)] w fun e w' => e = .returned (.int .i64 (xs.length : Int)) ∧ w' = w := by
  have hln := fl_len hF
  have f0 := blk_cell hF.head 0
  simp at f0
  go_enter Tryz.func74, Tryz.ntmps74
  go_wp2
  go_ret
  exact ⟨rfl, rfl⟩
end Go.Proofs.YteoihdkaoipocaaGreatDoor

/- (*fleet.Fleet).In: the places of a part's nodes. -/
namespace Go.Proofs.YteoihdkaoipocaaGreatDoor
open Go.RowKit Go.Maps Go.Shelf

theorem containsS_memB (l : List ByteArray) (x : ByteArray) : Lib.containsS l x = memB l x := by
  rw [Bool.eq_iff_iff, Lib.containsS_iff, memB_iff]
theorem contains_call (w : World) (po : Option Addr) (pn pc : Nat) (ps : List ByteArray) (s : ByteArray) (h : StrsAt w po pn ps) : Calls Tryz.prog 75 #[.slice po pn pc, .string s] w fun e w' => e = .returned (.bool (memB ps s)) ∧ w' = w := by
  have hl := h.len
  have hm := h.max
  by_cases h0 : pn = 0
  · subst h0
    have : ps = [] := List.length_eq_zero_iff.1 hl
    subst this
    exact Tryz.slices_Contains_string_empty po pc s w
  · obtain ⟨b, off, rfl, hlt, _⟩ := h.cell 0 (ps[0]'(by omega)) (by simp)
    refine (Tryz.slices_Contains_string b off pn pc ps s w (by omega) hm fun j hj => ?_).mono ?_
    · obtain ⟨b', off', e, _, hc⟩ := h.cell j (ps[j]'hj) (by simp [hj])
      cases e
      rw [hc]
      simp [List.getD, hj]
    · rintro e w' ⟨rfl, rfl⟩
      rw [List.take_of_length_le (by omega), containsS_memB]
      exact ⟨rfl, rfl⟩
def intsV (xs : List Int) : List Value := xs.map fun n => .int .i64 n
/-- a row of numbers of one's own -/
structure OwnI (w : World) (B : Nat) (v : Value) (xs : List Int) : Prop where
  row : w.ownsRow B 3 1 v xs.length (intsV xs)
def FinPost (vs : List Ndv) (p : ByteArray) (w : World) (e : Ending) (w' : World) : Prop := ∃ v, e = .returned v ∧ OwnI w' w.heap.size v (inOf vs p) ∧ Below w.heap.size w w'
theorem info3 : (Tryz.prog.info? 3).map (fun i => (i.zero, i.size, i.bytes)) = some (some (.int .i64 0), 1, 8) := by kernel_rfl
theorem one_new (w : World) (n : Int) : ∀ j u, ([.int .i64 n] : List Value)[j]? = some u → (w.alloc (.cells #[.int .i64 n] 3 (0, 0))).cell? ((⟨w.heap.size, 0, none⟩ : Addr).add j) = some u := by
  intro j u hu
  match j, hu with
  | 0, hu =>
    have := blk_cell (blk_new w (.cells #[.int .i64 n] 3 (0, 0))) 0
    simp at hu; subst hu
    exact this
  | j + 1, hu => simp at hu
theorem pl_at {xs : List Nde} {k : Nat} {x : Nde} (h : xs[k]? = some x) : (xs.map Nde.pl)[k]? = some x.pl := by rw [List.getElem?_map, h]; rfl
set_option maxRecDepth 100000 in
set_option maxHeartbeats 1600000 in
theorem fin_any (w : World) (fb mb base : Nat) (nv : Value) (xs : List Nde) (p : ByteArray) (hF : FlW w fb mb base nv xs) (hlen : xs.length ≤ 4096) : Calls Tryz.prog 36 #[.pointer (some ⟨fb, 0, none⟩), .string p] w (FinPost (xs.map Nde.pl) p w) := by
  obtain ⟨i3, hi3, hz3, hz31, hz32⟩ := info_parts info3
  obtain ⟨n, hn⟩ : ∃ n, n = xs.length := ⟨_, rfl⟩
  have hlc := len_any w fb mb base nv xs hF
  rw [← hn] at hlc hlen
  have hn0 : (0 : Int) ≤ (n : Int) := by omega
  replace hF := Lib.hid hF; replace hn := Lib.hid hn; replace hlc := Lib.hid hlc
  go_enter Tryz.func36, Tryz.ntmps36
  go_wp2_with fail
  refine hlc.out.mono ?_
  rintro e w1 ⟨rfl, rfl⟩
  go_wp2
  go_loopw [5, 9] (fun ov i wr => ∃ k : Nat, i = .int .i64 k ∧ k ≤ n ∧ Hid (OwnI wr w1.heap.size ov (inOf ((xs.map Nde.pl).take k) p)) ∧ Hid (Below w1.heap.size w1 wr)) (fun _ i _ => n - (intOf i).toNat)
  case atStart => exact ⟨0, rfl, Nat.zero_le _, ⟨rfl, .inl ⟨rfl, rfl⟩⟩, Below.refl _ _⟩
  case round =>
    obtain ⟨k, rfl, hk, hO, hB⟩ := hrel
    by_cases hc : k < n
    · have hc1 : (k : Int) < n := by omega
      have hk0 : (0 : Int) ≤ (k : Int) := by omega
      have hFr := hF.out.below hB.out
      obtain ⟨g, cap, rfl⟩ := Joins.ownsRow_form hFr.row (by have := hn.out; omega)
      obtain ⟨x, hx⟩ : ∃ x, xs[k]? = some x := ⟨_, List.getElem?_eq_getElem (by have := hn.out; omega)⟩
      obtain ⟨g', e1, _, _, hcell⟩ := hFr.cell hx
      have e2 : g = g' := by simpa [Value.ownBlock] using e1
      subst e2
      have c5 : wr.cell? ⟨g, k * 6 + 5, none⟩ = some (.slice x.po x.pn x.pc) := hcell 5 (by omega)
      have f0 := blk_cell hFr.head 0
      simp at f0
      rw [← hn.out] at f0
      have hct := contains_call wr x.po x.pn x.pc x.parts p (hFr.ok x (List.mem_of_getElem? hx)).1.parts
      obtain ⟨b, hb⟩ : ∃ b, b = memB x.parts p := ⟨_, rfl⟩
      rw [← hb] at hct
      have hpl := pl_at hx
      replace hFr := Lib.hid hFr; replace hx := Lib.hid hx; replace hct := Lib.hid hct; replace hb := Lib.hid hb; replace hpl := Lib.hid hpl; replace hcell := Lib.hid hcell; replace e1 := Lib.hid e1
      cases b with
      | false =>
        have hO2 : OwnI wr w1.heap.size u5 (inOf ((xs.map Nde.pl).take (k + 1)) p) := by rw [inOf_no hpl.out hb.out.symm]; exact hO.out
        replace hO2 := Lib.hid hO2
        go_wp2_with fail
        (with_reducible refine hct.out.mono ?_)
        rintro e wr ⟨rfl, rfl⟩
        go_wp2
        go_roundw
        case rel => exact ⟨k + 1, by go_num, by omega, hO2.out, hB.out⟩
        case measure => simp [intOf]; omega
      | true =>
        obtain ⟨L, hL⟩ : ∃ L, L = (inOf ((xs.map Nde.pl).take k) p).length := ⟨_, rfl⟩
        have hLk : L ≤ k := by rw [hL]; refine Nat.le_trans (inOf_len _ _) ?_; rw [List.length_take]; omega
        have hownA : (wr.alloc (.cells #[.int .i64 (k : Int)] 3 (0, 0))).ownsRow w1.heap.size 3 1 u5 L (intsV (inOf ((xs.map Nde.pl).take k) p)) := by rw [hL]; exact hO.out.row.alloc (.cells #[.int .i64 (k : Int)] 3 (0, 0))
        have hnews := one_new wr (k : Int)
        have hone1 : ∀ u ∈ ([.int .i64 (k : Int)] : List Value), u.oneCell' = true := by simp [Value.oneCell']
        have h63 := maxLen_ge (n := L) (by omega)
        have hby : (L + 1) * 8 ≤ 140737488355328 := by omega
        have hbas : w1.heap.size ≤ (wr.alloc (.cells #[.int .i64 (k : Int)] 3 (0, 0))).heap.size := by have := hB.out.size; simp; omega
        replace hL := Lib.hid hL; replace hownA := Lib.hid hownA; replace hnews := Lib.hid hnews; replace hone1 := Lib.hid hone1; replace h63 := Lib.hid h63; replace hby := Lib.hid hby; replace hbas := Lib.hid hbas
        go_wp2_with fail
        (with_reducible refine hct.out.mono ?_)
        rintro e wr ⟨rfl, rfl⟩
        go_wp2_with (at_builtin; refine wpList_append_own _ rfl _ _ 24 rfl w1.heap.size 3 i3 _ 1 8 Tryz.underlying24 hi3 hz3 hz31 hz32 rfl (by decide) _ L _ rfl hownA.out ⟨wr.heap.size, 0, none⟩ 1 1 [.int .i64 (k : Int)] rfl rfl hnews.out hone1.out h63.out hby.out hbas.out ?_; intro v1 w7 hown7 hgrow _; obtain ⟨g7, cap1, rfl⟩ := Joins.ownsRow_form hown7 (by omega); replace hown7 := Lib.hid hown7; replace hgrow := Lib.hid hgrow)
        have hO7 : OwnI w7 w1.heap.size (.slice (some ⟨g7, 0, none⟩) (L + 1) cap1) (inOf ((xs.map Nde.pl).take (k + 1)) p) := by
          rw [inOf_yes hpl.out hb.out.symm]
          refine ⟨?_⟩
          rw [List.length_append, ← hL.out]
          simpa [intsV] using hown7.out
        have hB7 : Below w1.heap.size w1 w7 := (hB.out.alloc hB.out.size _).grown hgrow.out hbas.out (fun k hk => (hO.out.row.lt k hk).1)
        replace hO7 := Lib.hid hO7; replace hB7 := Lib.hid hB7
        go_roundw
        case rel => exact ⟨k + 1, by go_num, by omega, hO7.out, hB7.out⟩
        case measure => simp [intOf]; omega
    · have hc1 : ¬ (k : Int) < n := by omega
      have hkn : (xs.map Nde.pl).take k = xs.map Nde.pl := List.take_of_length_le (by rw [List.length_map]; have := hn.out; omega)
      replace hkn := Lib.hid hkn
      go_wp2
      go_ret
      exact ⟨u5, rfl, by have := hO.out; rw [hkn.out] at this; exact this, hB.out⟩
end Go.Proofs.YteoihdkaoipocaaGreatDoor

/- (*fleet.Fleet).Parts: the partitions, sorted, each once. -/
namespace Go.Proofs.YteoihdkaoipocaaGreatDoor
open Go.RowKit Go.Maps Go.Shelf Go.Sort

def txts (xs : List ByteArray) : List Value := xs.map Value.string
structure OwnT (w : World) (B : Nat) (v : Value) (xs : List ByteArray) : Prop where
  row : w.ownsRow B 9 1 v xs.length (txts xs)
theorem own_empty (w : World) (B : Nat) : OwnT w B (.slice none 0 0) [] := ⟨rfl, .inl ⟨rfl, rfl⟩⟩
end Go.Proofs.YteoihdkaoipocaaGreatDoor

/- (*fleet.Fleet).Total: what a partition's nodes have. -/
namespace Go.Proofs.YteoihdkaoipocaaGreatDoor
open Go.RowKit Go.Maps Go.Shelf

structure TtW (w : World) (v : V4) (W : World) : Prop where
  low : Below w.heap.size w W
  r0 : W.heap[w.heap.size]? = some (.cells V4.zero.cells 23 (0, 0))
  r1 : W.heap[w.heap.size + 1]? = some (.cells v.cells 23 (0, 0))
theorem TtW.drew {w W : World} {v : V4} (h : TtW w v W) : TtW w v W.drew := ⟨h.low.drew, h.r0, h.r1⟩
theorem TtW.set {w W : World} {v v' : V4} (h : TtW w v W) (o : Nat) (x : Value) (e : v.cells.setIfInBounds o x = v'.cells) : TtW w v' (W.setCell ⟨w.heap.size + 1, o, none⟩ x) :=
  ⟨h.low.setCell (Nat.le_succ _) _, blk_set_other (Nat.ne_of_lt (Nat.lt_succ_self _)) _ h.r0, by rw [blk_set h.r1, e]⟩
/-- the first k are added -/
def mixV (u c : V4) (k : Nat) : V4 := ⟨if 0 < k then u.a + c.a else u.a, if 1 < k then u.b + c.b else u.b, if 2 < k then u.c + c.c else u.c, if 3 < k then u.d + c.d else u.d⟩
def TotPost (vs : List Ndv) (p : ByteArray) (w : World) (e : Ending) (w' : World) : Prop := e = .returned (totOf vs p).val ∧ Below w.heap.size w w'
end Go.Proofs.YteoihdkaoipocaaGreatDoor

/- What a read fleet is, and what its methods answer. -/
namespace Go.Proofs.YteoihdkaoipocaaGreatDoor
open Go.RowKit Go.Maps Go.Shelf

structure NdvAll (v : Ndv) : Prop where
  ok : NdvOk v
  few : v.parts.length ≤ 8
  once : twiceL v.parts = false
structure FltOk (vs : List Ndv) : Prop where
  len : vs.length ≤ 16
  all : ∀ v, v ∈ vs → NdvAll v
  nodup : (vs.map Ndv.name).Nodup
theorem fltOk_nil : FltOk [] := ⟨by simp, fun v h => (by cases h), by simp⟩
theorem putE_zero {ns : List ByteArray} {m : Nat} {name : ByteArray} {parts : List ByteArray} (h : putE ns m name parts = 0) : name ∉ ns ∧ twiceL parts = false ∧ m < 16 ∧ parts.length ≤ 8 := by
  unfold putE at h
  split at h
  · cases h
  · next h1 =>
    split at h
    · cases h
    · next h2 =>
      split at h
      · cases h
      · next h3 => exact ⟨fun c => h1 (memB_iff.2 c), by simpa using h2, by omega, by omega⟩
theorem readTo_good (l : List (Int × ByteArray)) : ∀ xs, FltOk xs → FltOk (readTo xs l).1 := by
  induction l with
  | nil => intro xs h; exact h
  | cons x l ih =>
    intro xs h
    obtain ⟨i, b⟩ := x
    simp only [readTo]
    cases hn : nodeOf b with
    | none => exact h
    | some v =>
      simp only
      by_cases c : putE (xs.map Ndv.name) xs.length v.name v.parts = 0
      · rw [if_pos c]
        obtain ⟨c1, c2, c3, c4⟩ := putE_zero c
        refine ih _ ⟨by simp; omega, fun y hy => ?_, ?_⟩
        · rcases List.mem_append.1 hy with hy | hy
          · exact h.all y hy
          · have : y = v := by simpa using hy
            subst this
            exact ⟨nodeOf_ok hn, c4, c2⟩
        · rw [List.map_append, List.nodup_append]
          refine ⟨h.nodup, by simp, fun a ha b hb => ?_⟩
          have : b = v.name := by simpa using hb
          subst this
          exact fun e => c1 (by rw [← e]; exact ha)
      · rw [if_neg c]; exact h
theorem capOk_right {v : V4} (h : v.right = true) : CapOk v := by
  simp only [V4.right, okn, Bool.and_eq_true, decide_eq_true_eq] at h
  exact ⟨h.1.1.1.1, h.1.1.1.2, h.1.1.2.1, h.1.1.2.2, h.1.2.1, h.1.2.2, h.2.1, h.2.2⟩
/-- the place of a text in a row; -1: it isn't there -/
def idxN : List ByteArray → ByteArray → Nat → Int
  | [], _, _ => -1
  | n :: ns, s, k => if n = s then (k : Int) else idxN ns s (k + 1)
theorem idxN_no {ns : List ByteArray} {s : ByteArray} (h : s ∉ ns) (k : Nat) : idxN ns s k = -1 := by
  induction ns generalizing k with
  | nil => rfl
  | cons n ns ih =>
    simp only [idxN]
    rw [if_neg (fun e => h (by rw [e]; exact List.mem_cons_self ..)), ih (fun c => h (List.mem_cons_of_mem _ c))]
theorem len_flt {w : World} {fb mb base : Nat} {vs : List Ndv} (h : Flt w fb mb base vs) : Calls Tryz.prog 74 #[.pointer (some ⟨fb, 0, none⟩)] w fun e w' => e = .returned (.int .i64 (vs.length : Int)) ∧ w' = w := by
  obtain ⟨nv, xs, h1, rfl, h3⟩ := h.ex
  rw [List.length_map]
  exact len_any w fb mb base nv xs h1
theorem in_flt {w : World} {fb mb base : Nat} {vs : List Ndv} (h : Flt w fb mb base vs) (hok : FltOk vs) (p : ByteArray) : Calls Tryz.prog 36 #[.pointer (some ⟨fb, 0, none⟩), .string p] w (FinPost vs p w) := by
  obtain ⟨nv, xs, h1, rfl, h3⟩ := h.ex
  have := hok.len
  rw [List.length_map] at this
  exact fin_any w fb mb base nv xs p h1 (by omega)
end Go.Proofs.YteoihdkaoipocaaGreatDoor

/- (*fleet.Fleet).Text: the fleet's text. -/
namespace Go.Proofs.YteoihdkaoipocaaGreatDoor
open Go.RowKit Go.Maps Go.Shelf

def joinP (ps : List ByteArray) : List UInt8 := Lib.join (ps.map (·.data.toList)) [32]
/-- a node's line -/
def lineV (v : Ndv) : List UInt8 := v.name.data.toList ++ [32] ++ txtV v.cap ++ [32] ++ joinP v.parts ++ [10]
def textOf (vs : List Ndv) : List UInt8 := vs.flatMap lineV
theorem inter_len (sep : List UInt8) (m : Nat) : ∀ (xs : List (List UInt8)), (∀ x, x ∈ xs → x.length ≤ m) → (sep.intercalate xs).length ≤ xs.length * (m + sep.length)
  | [], _ => by simp [List.intercalate]
  | [x], h => by
    have := h x (by simp)
    simp [List.intercalate]
    omega
  | x :: y :: r, h => by
    have h1 := h x (by simp)
    have h2 := inter_len sep m (y :: r) fun z hz => h z (by simp at hz ⊢; exact .inr hz)
    have e : sep.intercalate (x :: y :: r) = x ++ sep ++ sep.intercalate (y :: r) := by simp [List.intercalate]
    rw [e, List.length_append, List.length_append, List.length_cons, Nat.add_mul]
    omega
theorem v64_cap {v : V4} (h : CapOk v) : V64 v := by
  obtain ⟨h1, h2, h3, h4, h5, h6, h7, h8⟩ := h
  exact ⟨⟨by omega, by omega⟩, ⟨by omega, by omega⟩, ⟨by omega, by omega⟩, ⟨by omega, by omega⟩⟩
theorem ofL_self (s : ByteArray) : ofL s.data.toList = s := toL_inj (by rw [ofL_toL])
structure FtW (w : World) (l : List UInt8) (W : World) : Prop where
  low : Below w.heap.size w W
  b : Lib.IsBuilder 139 5 w.heap.size w.heap.size (Lib.byteCells l) W
end Go.Proofs.YteoihdkaoipocaaGreatDoor

/- The parts of a fleet, plain: sorted and each once, whichever way. -/
namespace Go.Proofs.YteoihdkaoipocaaGreatDoor
open Go.RowKit

abbrev Tx := List UInt8
/-- the document's way: each is put at its place -/
def ltB (a b : ByteArray) : Bool := decide (a.data.toList < b.data.toList)
def cntB (out : List ByteArray) (p : ByteArray) : Nat := (out.takeWhile fun x => ltB x p).length
def insB (out : List ByteArray) (p : ByteArray) : List ByteArray := if memB out p = true then out else out.take (cntB out p) ++ (p :: out.drop (cntB out p))
def StrictB (out : List ByteArray) : Prop := (out.map (·.data.toList)).Pairwise (· < ·)
def refParts (l : List ByteArray) : List ByteArray := l.foldl insB []
end Go.Proofs.YteoihdkaoipocaaGreatDoor

/- corveeref05.has, Twice, Texts; corveeref01.Same. -/
namespace Go.Proofs.YteoihdkaoipocaaGreatDoor
open Go.RowKit Go.Maps Go.Shelf

theorem str_eq {p q : ByteArray} (h : p = q) : (p.toList == q.toList) = true := by rw [h]; simp
theorem str_ne {p q : ByteArray} (h : p ≠ q) : (p.toList == q.toList) = false := by
  simp only [beq_eq_false_iff_ne]
  intro e
  rw [Lib.toList_data, Lib.toList_data] at e
  exact h (toL_inj e)
theorem str_eqn {p q : ByteArray} (h : p = q) : (p.toList != q.toList) = false := by simp [bne, str_eq h]
theorem str_nen {p q : ByteArray} (h : p ≠ q) : (p.toList != q.toList) = true := by simp [bne, str_ne h]

set_option maxRecDepth 100000 in
set_option maxHeartbeats 800000 in
theorem has_any (so : Option Addr) (n c : Nat) (xs : List ByteArray) (x : ByteArray) (w : World) (h : StrsAt w so n xs) : Calls Tryz.prog 82 #[.slice so n c, .string x] w fun e w' => e = .returned (.bool (memB xs x)) ∧ w' = w := by
  have hlen := h.len
  have hmax := h.max
  replace h := Lib.hid h; replace hlen := Lib.hid hlen
  go_enter Tryz.func82, Tryz.ntmps82
  go_wp2
  go_loopw [5] (fun i wr => ∃ k : Nat, i = .int .i64 k ∧ k ≤ n ∧ Hid (∀ j, j < k → xs[j]? ≠ some x) ∧ wr = w) (fun i _ => n - (intOf i).toNat)
  case atStart => exact ⟨0, rfl, Nat.zero_le _, (fun j h => by omega), rfl⟩
  case round =>
    obtain ⟨k, rfl, hk, hall, rfl⟩ := hrel
    by_cases hc : k < n
    · have hc1 : (k : Int) < n := by omega
      have hk0 : (0 : Int) ≤ (k : Int) := by omega
      obtain ⟨y, hy⟩ := h.out.get hc
      obtain ⟨b, off, rfl, hb, a0⟩ := h.out.cell k y hy
      by_cases q : y = x
      · have d := str_eq q
        have hm : memB xs x = true := memB_iff.2 (by rw [← q]; exact List.mem_of_getElem? hy)
        replace hy := Lib.hid hy; replace q := Lib.hid q; replace hm := Lib.hid hm
        go_wp2
        go_ret
        exact ⟨by rw [hm.out]; rfl, rfl⟩
      · have d := str_ne q
        have hn : ∀ j, j < k + 1 → xs[j]? ≠ some x := fun j hj e => by
          by_cases c : j = k
          · subst c; rw [hy] at e; exact q (Option.some.inj e)
          · exact hall.out j (by omega) e
        replace hy := Lib.hid hy; replace q := Lib.hid q; replace hn := Lib.hid hn
        go_wp2
        go_roundw
        case rel => exact ⟨k + 1, by go_num, by omega, hn.out, trivial⟩
        case measure => simp [intOf]; omega
    · have hc1 : ¬ (k : Int) < n := by omega
      have hm : memB xs x = false := by
        rw [Bool.eq_false_iff]
        intro c
        obtain ⟨j, hj, e⟩ := List.mem_iff_getElem.1 (memB_iff.1 c)
        have hl := hlen.out
        exact hall.out j (by omega) (by rw [List.getElem?_eq_getElem hj, e])
      replace hm := Lib.hid hm
      go_wp2
      go_ret
      exact ⟨by rw [hm.out]; rfl, rfl⟩

def TwicePost (xs : List ByteArray) (w : World) (e : Ending) (w' : World) : Prop := e = .returned (.bool (twiceL xs)) ∧ Below w.heap.size w w'
set_option maxRecDepth 100000 in
set_option maxHeartbeats 1600000 in
theorem twice_any (so : Option Addr) (n c : Nat) (xs : List ByteArray) (w : World) (h : StrsAt w so n xs) : Calls Tryz.prog 34 #[.slice so n c] w (TwicePost xs w) := by
  have hlen := h.len
  have hmax := h.max
  replace h := Lib.hid h; replace hlen := Lib.hid hlen
  go_enter Tryz.func34, Tryz.ntmps34
  go_wp2
  go_loopw [3] (fun i wr => ∃ k : Nat, i = .int .i64 k ∧ k ≤ n ∧ Hid (¬ DupTo xs k) ∧ Hid (Below w.heap.size w wr)) (fun i _ => n - (intOf i).toNat)
  case atStart => exact ⟨0, rfl, Nat.zero_le _, (fun ⟨i, j, s, h1, h2, _⟩ => absurd h2 (Nat.not_lt_zero _)), Below.refl _ _⟩
  case round =>
    obtain ⟨k, rfl, hk, hD, hB⟩ := hrel
    by_cases hc : k < n
    · have hc1 : (k : Int) < n := by omega
      have hk0 : (0 : Int) ≤ (k : Int) := by omega
      obtain ⟨y, hy⟩ := h.out.get hc
      obtain ⟨b, off, rfl, hb, a0⟩ := h.out.cell k y hy
      replace hy := Lib.hid hy
      go_wp2
      go_loopw [4] (fun i wq => ∃ j : Nat, i = .int .i64 j ∧ j ≤ k ∧ Hid (∀ j', j' < j → xs[j']? ≠ some y) ∧ Hid (Below w.heap.size w wq)) (fun i _ => k - (intOf i).toNat)
      case atStart => exact ⟨0, rfl, Nat.zero_le _, (fun j' h => absurd h (Nat.not_lt_zero _)), hB.out⟩
      case round =>
        obtain ⟨j, rfl, hj, hN, hB2⟩ := hrel
        by_cases hj1 : j < k
        · have hc2 : (j : Int) < k := by omega
          have hj0 : (0 : Int) ≤ (j : Int) := by omega
          obtain ⟨z, hz⟩ := h.out.get (i := j) (by omega)
          obtain ⟨b2, off2, e2, hb2, c0⟩ := h.out.cell j z hz
          cases e2
          have q0 := (below_cell hB2.out hb).trans a0
          have q1 := (below_cell hB2.out hb).trans c0
          have hBd : Below w.heap.size w wr.drew := hB2.out.drew
          clear c0
          by_cases q : y = z
          · have d := str_eq q
            have ht : twiceL xs = true := by rw [twiceL_iff]; exact ⟨k, j, y, hj1, by rw [hlen.out]; exact hc, hy.out, by rw [q]; exact hz⟩
            replace hz := Lib.hid hz; replace q := Lib.hid q; replace ht := Lib.hid ht; replace hBd := Lib.hid hBd
            go_wp2
            go_quiet (fail)
            go_wp2
            go_ret
            exact ⟨by rw [ht.out]; rfl, ⟨hB2.out.os, hB2.out.tape, hB2.out.output, hB2.out.size, hB2.out.block⟩⟩
          · have d := str_ne q
            have hN2 : ∀ j', j' < j + 1 → xs[j']? ≠ some y := fun j' h e => by
              by_cases c : j' = j
              · subst c; rw [hz] at e; exact q (Option.some.inj e).symm
              · exact hN.out j' (by omega) e
            replace hz := Lib.hid hz; replace q := Lib.hid q; replace hN2 := Lib.hid hN2; replace hBd := Lib.hid hBd
            go_wp2
            go_quiet (fail)
            go_wp2
            go_roundw
            case rel => exact ⟨j + 1, by go_num, by omega, hN2.out, ⟨hB2.out.os, hB2.out.tape, hB2.out.output, hB2.out.size, hB2.out.block⟩⟩
            case measure => simp [intOf]; omega
        · have hc2 : ¬ (j : Int) < k := by omega
          have hD2 : ¬ DupTo xs (k + 1) := fun ⟨i, j', s, h1, h2, h3, h4⟩ => by
            by_cases c : i = k
            · subst c
              rw [hy.out] at h3
              exact hN.out j' (by omega) (by rw [h4, ← h3])
            · exact hD.out ⟨i, j', s, h1, by omega, h3, h4⟩
          replace hD2 := Lib.hid hD2
          go_wp2
          go_roundw
          case rel => exact ⟨k + 1, by go_num, by omega, hD2.out, hB2.out⟩
          case measure => simp [intOf]; omega
    · have hc1 : ¬ (k : Int) < n := by omega
      have ht : twiceL xs = false := by
        rw [Bool.eq_false_iff]
        intro c
        have hl := hlen.out
        have hkn : k = n := by omega
        exact hD.out (by rw [hkn, ← hl]; exact (twiceL_iff xs).1 c)
      replace ht := Lib.hid ht
      go_wp2
      go_ret
      exact ⟨by rw [ht.out]; rfl, hB.out⟩

def TextsPost (xs ys : List ByteArray) (w : World) (e : Ending) (w' : World) : Prop := e = .returned (.bool (decide (xs = ys))) ∧ Below w.heap.size w w'
end Go.Proofs.YteoihdkaoipocaaGreatDoor

/- The document's fleet in memory; its Index, In; corveeref01.Same. -/
namespace Go.Proofs.YteoihdkaoipocaaGreatDoor
open Go.RowKit Go.Maps Go.Shelf

structure IntsAt (w : World) (so : Option Addr) (n : Nat) (xs : List Int) : Prop where
  len : xs.length = n
  max : n ≤ 9223372036854775807
  cell : ∀ i x, xs[i]? = some x → ∃ b off, so = some ⟨b, off, none⟩ ∧ b < w.heap.size ∧ w.cell? ⟨b, off + i, none⟩ = some (.int .i64 x)
theorem IntsAt.low {w w' : World} {so : Option Addr} {n : Nat} {xs : List Int} (h : IntsAt w so n xs) (hb : Below w.heap.size w w') : IntsAt w' so n xs :=
  ⟨h.len, h.max, fun i x hx => by
    obtain ⟨b, off, e, hlt, hc⟩ := h.cell i x hx
    exact ⟨b, off, e, Nat.lt_of_lt_of_le hlt hb.size, (below_cell hb hlt).trans hc⟩⟩
theorem IntsAt.get {w : World} {so : Option Addr} {n : Nat} {xs : List Int} (h : IntsAt w so n xs) {i : Nat} (hi : i < n) : ∃ x, xs[i]? = some x := ⟨_, List.getElem?_eq_getElem (by rw [h.len]; exact hi)⟩
theorem ints_of_own {w : World} {B : Nat} {v : Value} {xs : List Int} (h : OwnI w B v xs) : ∃ so c, v = .slice so xs.length c ∧ IntsAt w so xs.length xs := by
  rcases h.row.2 with ⟨hv, h0⟩ | ⟨g, cap, cur, hv, hg, hh, hn, hm, hr⟩
  · have : xs = [] := List.length_eq_zero_iff.1 h0
    subst this
    exact ⟨none, 0, hv, rfl, by simp, fun i x hx => by simp at hx⟩
  · refine ⟨some ⟨g, 0, none⟩, cap, hv, rfl, by have : maxLen = 9223372036854775807 := rfl; omega, fun i x hx => ⟨g, 0, rfl, blk_lt hh, ?_⟩⟩
    have hi := (List.getElem?_eq_some_iff.1 hx).1
    have hrow := h.row
    rw [hv] at hrow
    rw [Nat.zero_add, World.ownsRow.cellAt hrow i (by omega), intsV, List.getElem?_map, hx]; rfl
def SameiPost (xs ys : List Int) (w : World) (e : Ending) (w' : World) : Prop := e = .returned (.bool (decide (xs = ys))) ∧ Below w.heap.size w w'
set_option maxRecDepth 100000 in
set_option maxHeartbeats 1600000 in
theorem samei_any (ao bo : Option Addr) (n m c c' : Nat) (xs ys : List Int) (w : World) (hx : IntsAt w ao n xs) (hy : IntsAt w bo m ys) : Calls Tryz.prog 116 #[.slice ao n c, .slice bo m c'] w (SameiPost xs ys w) := by
  have hlx := hx.len
  have hly := hy.len
  have hmx := hx.max
  by_cases q : n = m
  rotate_left
  · have d : ((n : Int) != (m : Int)) = true := by rw [bne_iff_ne]; omega
    have hne : decide (xs = ys) = false := decide_eq_false fun h => q (by rw [← hlx, ← hly, h])
    replace hx := Lib.hid hx; replace hy := Lib.hid hy; replace hlx := Lib.hid hlx; replace hly := Lib.hid hly; replace q := Lib.hid q; replace hne := Lib.hid hne
    go_enter Tryz.func116, Tryz.ntmps116
    go_wp2
    go_ret
    exact ⟨by rw [hne.out]; rfl, Below.refl _ _⟩
  subst q
  have d : ((n : Int) != (n : Int)) = false := by simp
  replace hx := Lib.hid hx; replace hy := Lib.hid hy; replace hlx := Lib.hid hlx; replace hly := Lib.hid hly
  go_enter Tryz.func116, Tryz.ntmps116
  go_wp2
  go_loopw [5] (fun i wr => ∃ k : Nat, i = .int .i64 k ∧ k ≤ n ∧ Hid (∀ j, j < k → xs[j]? = ys[j]?) ∧ Hid (Below w.heap.size w wr)) (fun i _ => n - (intOf i).toNat)
  case atStart => exact ⟨0, rfl, Nat.zero_le _, (fun j h => by omega), Below.refl _ _⟩
  case round =>
    obtain ⟨k, rfl, hk, hall, hB⟩ := hrel
    by_cases hc : k < n
    · have hc1 : (k : Int) < n := by omega
      have hk0 : (0 : Int) ≤ (k : Int) := by omega
      obtain ⟨y, hy1⟩ := hx.out.get hc
      obtain ⟨z, hz1⟩ := hy.out.get hc
      obtain ⟨b, off, rfl, hb, a0⟩ := hx.out.cell k y hy1
      obtain ⟨b', off', rfl, hb', a1⟩ := hy.out.cell k z hz1
      have b0 := (below_cell hB.out hb).trans a0
      have b1 := (below_cell hB.out hb').trans a1
      clear a0 a1
      by_cases q : y = z
      · have d2 : (y != z) = false := by simp [q]
        have hn : ∀ j, j < k + 1 → xs[j]? = ys[j]? := fun j hj => by
          by_cases e : j = k
          · subst e; rw [hy1, hz1, q]
          · exact hall.out j (by omega)
        replace hy1 := Lib.hid hy1; replace hz1 := Lib.hid hz1; replace q := Lib.hid q; replace hn := Lib.hid hn
        go_wp2
        go_quiet (fail)
        go_wp2
        go_roundw
        case rel => exact ⟨k + 1, by go_num, by omega, hn.out, ⟨hB.out.os, hB.out.tape, hB.out.output, hB.out.size, hB.out.block⟩⟩
        case measure => simp [intOf]; omega
      · have d2 : (y != z) = true := by simp [q]
        have hne : decide (xs = ys) = false := decide_eq_false fun h => by
          rw [h, hz1] at hy1
          exact q (Option.some.inj hy1).symm
        replace hy1 := Lib.hid hy1; replace hz1 := Lib.hid hz1; replace q := Lib.hid q; replace hne := Lib.hid hne
        go_wp2
        go_quiet (fail)
        go_wp2
        go_ret
        exact ⟨by rw [hne.out]; rfl, ⟨hB.out.os, hB.out.tape, hB.out.output, hB.out.size, hB.out.block⟩⟩
    · have hc1 : ¬ (k : Int) < n := by omega
      have he : decide (xs = ys) = true := decide_eq_true (List.ext_getElem? fun j => by
        by_cases hj : j < n
        · exact hall.out j (by omega)
        · have h1 := hlx.out
          have h2 := hly.out
          rw [List.getElem?_eq_none (by omega), List.getElem?_eq_none (by omega)])
      replace he := Lib.hid he
      go_wp2
      go_ret
      exact ⟨by rw [he.out]; rfl, hB.out⟩

/-- the document's fleet: its nodes' row -/
structure FlR (W : World) (base : Nat) (nv : Value) (xs : List Nde) : Prop where
  row : W.ownsRow base 73 6 nv xs.length (flatv Nde.cells xs)
  ok : ∀ x, x ∈ xs → x.ok W ∧ PartsAt W x
theorem FlR.below {w w' : World} {base : Nat} {nv : Value} {xs : List Nde} (h : FlR w base nv xs) (hb : Below w.heap.size w w') : FlR w' base nv xs := by
  refine ⟨⟨h.row.1, ?_⟩, fun x hx => ⟨(h.ok x hx).1.low hb, fun b off e => ?_⟩⟩
  · rcases h.row.2 with h | ⟨g, cap, cur, hv, hg, hh, hr⟩
    · exact .inl h
    · exact .inr ⟨g, cap, cur, hv, hg, blk_below hb hh (blk_lt hh), hr⟩
  · obtain ⟨c, hc⟩ := (h.ok x hx).2 b off e
    exact ⟨c, blk_below hb hc (blk_lt hc)⟩
theorem FlR.cell {W : World} {base : Nat} {nv : Value} {xs : List Nde} (h : FlR W base nv xs) {k : Nat} {x : Nde} (hx : xs[k]? = some x) : ∃ g cap, nv = .slice (some ⟨g, 0, none⟩) xs.length cap ∧ g < W.heap.size ∧ base ≤ g ∧ ∀ j, j < 6 → W.cell? ⟨g, k * 6 + j, none⟩ = (x.cells)[j]? := by
  have hk := (List.getElem?_eq_some_iff.1 hx).1
  rcases h.row.2 with ⟨hv, h0⟩ | ⟨g, cap, cur, hv, hg, hh, hr⟩
  · have : xs.length = 0 := h0
    omega
  · subst hv
    refine ⟨g, cap, rfl, blk_lt hh, hg, fun j hj => ?_⟩
    rw [World.ownsRow.cellAt h.row (k * 6 + j) (by
      have : (k + 1) * 6 ≤ xs.length * 6 := Nat.mul_le_mul_right _ (by omega)
      omega), flatv_get nde_size xs hx hj]
theorem flr_len {w : World} {base : Nat} {nv : Value} {xs : List Nde} (h : FlR w base nv xs) : ∀ ty w, (Builtin.len_ #[32] ty #[nv]).run Tryz.prog w = .ok (.int .i64 (xs.length : Int)) w := fun ty w => by
  rcases Joins.ownsRow_forms h.row with ⟨rfl, h0⟩ | ⟨g, cap, rfl⟩
  · rw [h0]; simp [go_sem, Tryz.underlying32]
  · simp [go_sem, Tryz.underlying32]

set_option maxRecDepth 100000 in
set_option maxHeartbeats 1600000 in
theorem ridx_any (w : World) (base : Nat) (nv : Value) (xs : List Nde) (s : ByteArray) (hF : FlR w base nv xs) (hl63 : xs.length ≤ 4096) : Calls Tryz.prog 33 #[.agg #[nv], .string s] w fun e w' => e = .returned (.int .i64 (idxN (xs.map Nde.name) s 0)) ∧ Below w.heap.size w w' := by
  have hln := flr_len hF
  obtain ⟨n, hn⟩ : ∃ n, n = xs.length := ⟨_, rfl⟩
  rw [← hn] at hln hl63
  obtain ⟨W, hW⟩ : ∃ W, W = w.alloc (.cells #[nv] 34 (0, 0)) := ⟨_, rfl⟩
  have hb : Below w.heap.size w W := by rw [hW]; exact (Below.refl _ _).alloc (Nat.le_refl _) _
  have hbx : W.heap[w.heap.size]? = some (.cells #[nv] 34 (0, 0)) := by rw [hW]; exact blk_new _ _
  have hF1 := hF.below hb
  have f0 : W.cell? ⟨w.heap.size, 0, none⟩ = some nv := blk_cell hbx 0
  replace hF := Lib.hid hF; replace hn := Lib.hid hn; replace hb := Lib.hid hb; replace hbx := Lib.hid hbx; replace hF1 := Lib.hid hF1
  go_enter Tryz.func33, Tryz.ntmps33
  go_wp2
  rw [← hW]
  have hW' := Lib.hid hW
  clear hW
  go_loop [5] (fun i => ∃ k : Nat, i = .int .i64 k ∧ k ≤ n ∧ Hid (idxN (xs.map Nde.name) s 0 = idxN ((xs.map Nde.name).drop k) s k)) (fun i => n - (intOf i).toNat)
  case atStart => exact ⟨0, rfl, Nat.zero_le _, rfl⟩
  case round =>
    obtain ⟨k, rfl, hk, hI⟩ := hrel
    by_cases hc : k < n
    · have hc1 : (k : Int) < n := by omega
      have hk0 : (0 : Int) ≤ (k : Int) := by omega
      obtain ⟨x, hx⟩ : ∃ x, xs[k]? = some x := ⟨_, List.getElem?_eq_getElem (by have := hn.out; omega)⟩
      obtain ⟨g, cap, rfl, _, _, hcell⟩ := hF1.out.cell hx
      have c0 : W.cell? ⟨g, k * 6 + 0, none⟩ = some (.string x.name) := hcell 0 (by omega)
      rw [Nat.add_zero] at c0
      have hlt : (xs.map Nde.name)[k]? = some x.name := by rw [List.getElem?_map, hx]; rfl
      have hdr : (xs.map Nde.name).drop k = x.name :: (xs.map Nde.name).drop (k + 1) := by
        obtain ⟨h1, h2⟩ := List.getElem?_eq_some_iff.1 hlt
        rw [List.drop_eq_getElem_cons h1, h2]
      rw [← hn.out] at f0
      clear hln
      by_cases q : x.name = s
      · have d := str_eq q
        have hr : idxN (xs.map Nde.name) s 0 = (k : Int) := by rw [hI.out, hdr]; simp only [idxN]; rw [if_pos q]
        replace hx := Lib.hid hx; replace hcell := Lib.hid hcell; replace hlt := Lib.hid hlt; replace hdr := Lib.hid hdr; replace q := Lib.hid q; replace hr := Lib.hid hr
        go_wp2
        go_ret
        exact ⟨by rw [hr.out]; rfl, hb.out⟩
      · have d := str_ne q
        have hr : idxN (xs.map Nde.name) s 0 = idxN ((xs.map Nde.name).drop (k + 1)) s (k + 1) := by rw [hI.out, hdr]; simp only [idxN]; rw [if_neg q]
        replace hx := Lib.hid hx; replace hcell := Lib.hid hcell; replace hlt := Lib.hid hlt; replace hdr := Lib.hid hdr; replace q := Lib.hid q; replace hr := Lib.hid hr
        go_wp2
        go_round
        case rel => exact ⟨k + 1, by go_num, by omega, hr.out⟩
        case measure => simp [intOf]; omega
    · have hc1 : ¬ (k : Int) < n := by omega
      have hr : idxN (xs.map Nde.name) s 0 = -1 := by
        rw [hI.out, List.drop_eq_nil_of_le (by rw [List.length_map]; have := hn.out; omega)]; rfl
      replace hr := Lib.hid hr
      go_wp2
      go_ret
      exact ⟨by rw [hr.out]; rfl, hb.out⟩
end Go.Proofs.YteoihdkaoipocaaGreatDoor

/- The document's fleet: In, Total. -/
namespace Go.Proofs.YteoihdkaoipocaaGreatDoor
open Go.RowKit Go.Maps Go.Shelf

theorem owns_mono {w : World} {base base' : Nat} {e : TypeId} {size : Nat} {v : Value} {n : Nat} {xs : List Value} (h : w.ownsRow base e size v n xs) (hb : base' ≤ base) : w.ownsRow base' e size v n xs := by
  refine ⟨h.1, ?_⟩
  rcases h.2 with h | ⟨g, cap, cur, hv, hg, hr⟩
  · exact .inl h
  · exact .inr ⟨g, cap, cur, hv, Nat.le_trans hb hg, hr⟩
structure RinW (w : World) (nv ov : Value) (zs : List Int) (W : World) : Prop where
  low : Below w.heap.size w W
  box : W.heap[w.heap.size]? = some (.cells #[nv] 34 (0, 0))
  out : OwnI W (w.heap.size + 1) ov zs
  sz : w.heap.size + 1 ≤ W.heap.size
set_option maxRecDepth 100000 in
set_option maxHeartbeats 1600000 in
theorem rin_any (w : World) (base : Nat) (nv : Value) (xs : List Nde) (p : ByteArray) (hF : FlR w base nv xs) (hlen : xs.length ≤ 4096) : Calls Tryz.prog 40 #[.agg #[nv], .string p] w (FinPost (xs.map Nde.pl) p w) := by
  obtain ⟨i3, hi3, hz3, hz31, hz32⟩ := info_parts info3
  have hln := flr_len hF
  obtain ⟨n, hn⟩ : ∃ n, n = xs.length := ⟨_, rfl⟩
  rw [← hn] at hln hlen
  have hR0 : RinW w nv (.slice none 0 0) (inOf ((xs.map Nde.pl).take 0) p) (w.alloc (.cells #[nv] 34 (0, 0))) := ⟨(Below.refl _ _).alloc (Nat.le_refl _) _, blk_new _ _, ⟨rfl, .inl ⟨rfl, rfl⟩⟩, by simp⟩
  replace hF := Lib.hid hF; replace hn := Lib.hid hn; replace hR0 := Lib.hid hR0
  go_enter Tryz.func40, Tryz.ntmps40
  go_wp2
  go_loopw [5, 6] (fun ov i wr => ∃ k : Nat, i = .int .i64 k ∧ k ≤ n ∧ Hid (RinW w nv ov (inOf ((xs.map Nde.pl).take k) p) wr)) (fun _ i _ => n - (intOf i).toNat)
  case atStart => exact ⟨0, rfl, Nat.zero_le _, hR0.out⟩
  case round =>
    obtain ⟨k, rfl, hk, hR⟩ := hrel
    have f0 : wr.cell? ⟨w.heap.size, 0, none⟩ = some nv := blk_cell hR.out.box 0
    by_cases hc : k < n
    · have hc1 : (k : Int) < n := by omega
      have hk0 : (0 : Int) ≤ (k : Int) := by omega
      have hFr := hF.out.below hR.out.low
      obtain ⟨x, hx⟩ : ∃ x, xs[k]? = some x := ⟨_, List.getElem?_eq_getElem (by have := hn.out; omega)⟩
      obtain ⟨g, cap, rfl, _, _, hcell⟩ := hFr.cell hx
      have c5 : wr.cell? ⟨g, k * 6 + 5, none⟩ = some (.slice x.po x.pn x.pc) := hcell 5 (by omega)
      rw [← hn.out] at f0
      clear hln
      have hct := has_any x.po x.pn x.pc x.parts p wr (hFr.ok x (List.mem_of_getElem? hx)).1.parts
      obtain ⟨b, hb⟩ : ∃ b, b = memB x.parts p := ⟨_, rfl⟩
      rw [← hb] at hct
      have hpl := pl_at hx
      replace hFr := Lib.hid hFr; replace hx := Lib.hid hx; replace hct := Lib.hid hct; replace hb := Lib.hid hb; replace hpl := Lib.hid hpl; replace hcell := Lib.hid hcell
      cases b with
      | false =>
        have hR2 : RinW w (.slice (some ⟨g, 0, none⟩) xs.length cap) u5 (inOf ((xs.map Nde.pl).take (k + 1)) p) wr := by rw [inOf_no hpl.out hb.out.symm]; exact hR.out
        replace hR2 := Lib.hid hR2
        go_wp2_with fail
        (with_reducible refine hct.out.mono ?_)
        rintro e wr ⟨rfl, rfl⟩
        go_wp2
        go_roundw
        case rel => exact ⟨k + 1, by go_num, by omega, hR2.out⟩
        case measure => simp [intOf]; omega
      | true =>
        obtain ⟨L, hL⟩ : ∃ L, L = (inOf ((xs.map Nde.pl).take k) p).length := ⟨_, rfl⟩
        have hLk : L ≤ k := by rw [hL]; refine Nat.le_trans (inOf_len _ _) ?_; rw [List.length_take]; omega
        have hownA : (wr.alloc (.cells #[.int .i64 (k : Int)] 3 (0, 0))).ownsRow (w.heap.size + 1) 3 1 u5 L (intsV (inOf ((xs.map Nde.pl).take k) p)) := by rw [hL]; exact hR.out.out.row.alloc (.cells #[.int .i64 (k : Int)] 3 (0, 0))
        have hnews := one_new wr (k : Int)
        have hone1 : ∀ u ∈ ([.int .i64 (k : Int)] : List Value), u.oneCell' = true := by simp [Value.oneCell']
        have h63 := maxLen_ge (n := L) (by omega)
        have hby : (L + 1) * 8 ≤ 140737488355328 := by omega
        have hbas : w.heap.size + 1 ≤ (wr.alloc (.cells #[.int .i64 (k : Int)] 3 (0, 0))).heap.size := by have := hR.out.sz; simp; omega
        replace hL := Lib.hid hL; replace hownA := Lib.hid hownA; replace hnews := Lib.hid hnews; replace hone1 := Lib.hid hone1; replace h63 := Lib.hid h63; replace hby := Lib.hid hby; replace hbas := Lib.hid hbas
        go_wp2_with fail
        (with_reducible refine hct.out.mono ?_)
        rintro e wr ⟨rfl, rfl⟩
        go_wp2_with (at_builtin; refine wpList_append_own _ rfl _ _ 24 rfl (w.heap.size + 1) 3 i3 _ 1 8 Tryz.underlying24 hi3 hz3 hz31 hz32 rfl (by decide) _ L _ rfl hownA.out ⟨wr.heap.size, 0, none⟩ 1 1 [.int .i64 (k : Int)] rfl rfl hnews.out hone1.out h63.out hby.out hbas.out ?_; intro v1 w7 hown7 hgrow _; obtain ⟨g7, cap1, rfl⟩ := Joins.ownsRow_form hown7 (by omega); replace hown7 := Lib.hid hown7; replace hgrow := Lib.hid hgrow)
        have hR7 : RinW w (.slice (some ⟨g, 0, none⟩) xs.length cap) (.slice (some ⟨g7, 0, none⟩) (L + 1) cap1) (inOf ((xs.map Nde.pl).take (k + 1)) p) w7 := by
          have hlt := hR.out.out.row.lt
          refine ⟨?_, ?_, ⟨?_⟩, ?_⟩
          · exact (hR.out.low.alloc hR.out.low.size _).grown hgrow.out (by have := hbas.out; omega) (fun k hk => by have := (hlt k hk).1; omega)
          · exact (hgrow.out.block _ (by have := hR.out.sz; simp; omega) (fun e => by have := (hlt _ e.symm).1; omega)).trans (blk_old _ hR.out.box)
          · rw [inOf_yes hpl.out hb.out.symm, List.length_append, ← hL.out]
            simpa [intsV] using hown7.out
          · have := hgrow.out.size; have := hbas.out; omega
        replace hR7 := Lib.hid hR7
        go_roundw
        case rel => exact ⟨k + 1, by go_num, by omega, hR7.out⟩
        case measure => simp [intOf]; omega
    · have hc1 : ¬ (k : Int) < n := by omega
      have hkn : (xs.map Nde.pl).take k = xs.map Nde.pl := List.take_of_length_le (by rw [List.length_map]; have := hn.out; omega)
      replace hkn := Lib.hid hkn
      go_wp2
      go_ret
      refine ⟨u5, rfl, ⟨?_⟩, hR.out.low⟩
      have := hR.out.out.row
      rw [hkn.out] at this
      exact owns_mono this (Nat.le_succ _)

structure RtW (w : World) (nv : Value) (v : V4) (W : World) : Prop where
  low : Below w.heap.size w W
  box : W.heap[w.heap.size]? = some (.cells #[nv] 34 (0, 0))
  r0 : W.heap[w.heap.size + 1]? = some (.cells V4.zero.cells 23 (0, 0))
  r1 : W.heap[w.heap.size + 2]? = some (.cells v.cells 23 (0, 0))
theorem RtW.set {w W : World} {nv : Value} {v v' : V4} (h : RtW w nv v W) (o : Nat) (x : Value) (e : v.cells.setIfInBounds o x = v'.cells) : RtW w nv v' (W.setCell ⟨w.heap.size + 2, o, none⟩ x) :=
  ⟨h.low.setCell (Nat.le_add_right _ _) _, blk_set_other (by omega) _ h.box, blk_set_other (by omega) _ h.r0, by rw [blk_set h.r1, e]⟩
theorem RtW.drew {w W : World} {nv : Value} {v : V4} (h : RtW w nv v W) : RtW w nv v W.drew := ⟨h.low.drew, h.box, h.r0, h.r1⟩
end Go.Proofs.YteoihdkaoipocaaGreatDoor

/- (corveeref05.Fleet).Parts: each part is put at its place. -/
namespace Go.Proofs.YteoihdkaoipocaaGreatDoor
open Go.RowKit Go.Maps Go.Shelf

structure RpW (w : World) (nv ov : Value) (l : List ByteArray) (W : World) : Prop where
  low : Below w.heap.size w W
  box : W.heap[w.heap.size]? = some (.cells #[nv] 34 (0, 0))
  out : OwnT W (w.heap.size + 1) ov l
  nil : l = [] → ov = .slice none 0 0
  sz : w.heap.size + 1 ≤ W.heap.size
theorem RpW.next {w W W' : World} {nv ov ov' : Value} {out out' : List ByteArray} (h : RpW w nv ov out W) (hb : Below W.heap.size W W') (ho : W'.ownsRow W.heap.size 9 1 ov' out'.length (txts out')) (hne : out' ≠ []) : RpW w nv ov' out' W' :=
  ⟨h.low.trans (hb.mono h.low.size), blk_below hb h.box (blk_lt h.box), ⟨owns_mono ho h.sz⟩, fun e => absurd e hne, Nat.le_trans h.sz hb.size⟩
end Go.Proofs.YteoihdkaoipocaaGreatDoor

/- (*fleet.Fleet).Node; corveeref05.Nodes. -/
namespace Go.Proofs.YteoihdkaoipocaaGreatDoor
open Go.RowKit Go.Maps Go.Shelf

theorem eqi (d : Nat) (a b : Int) (w : World) : (Op.equalIn (d + 1) 3 (.int .i64 a) (.int .i64 b)).run Tryz.prog w = .ok (a == b) w := by
  simp [Op.equalIn, run_underlying Tryz.underlying3]
theorem cells3 : Tryz.prog.cellsOf 3 = 1 := by kernel_rfl
theorem eq25d (dd : Nat) (u v : V4) (w : World) : (Op.equalIn (dd + 2) 23 u.val v.val).run Tryz.prog w = .ok (decide (u = v)) w := by
  obtain ⟨i0, hi0, hz0, hz1, hz2⟩ := info_parts info3
  show (Op.equalIn ((dd + 1) + 1) 23 u.val v.val).run Tryz.prog w = _
  rw [run_equalIn_array w (dd + 1) _ _ Tryz.underlying23 hi0, cells3]
  show (Op.eqItems (dd + 1) 3 1 _ _ [0, 1, 2, 3]).run Tryz.prog w = _
  obtain ⟨a, b, c, d⟩ := u
  obtain ⟨a', b', c', d'⟩ := v
  by_cases h1 : a = a' <;> by_cases h2 : b = b' <;> by_cases h3 : c = c' <;> by_cases h4 : d = d'
  all_goals
    simp [Op.eqItems, eqi, part, sizeOf, typeInfo, hi0, hz1, h1, h2, h3, h4]
theorem eq25 (u v : V4) (w : World) : (Op.equalIn 10000 23 u.val v.val).run Tryz.prog w = .ok (decide (u = v)) w := eq25d 9998 u v w

def NodeAt (vs : List Ndv) (i : Int) (w : World) (e : Ending) (w' : World) : Prop :=
  ∃ (x : Nde) (b : Bool), e = .returned (.tuple #[x.val, .bool b]) ∧ x.ok w' ∧ Below w.heap.size w w' ∧ (∀ bb off, x.po = some ⟨bb, off, none⟩ → w.heap.size ≤ bb ∧ ∃ c, w'.heap[bb]? = some (.cells c 9 (0, 0))) ∧
    ((b = true ∧ 0 ≤ i ∧ vs[i.toNat]? = some x.pl) ∨ (b = false ∧ x = Nde.zero ∧ (i < 0 ∨ (vs.length : Int) ≤ i)))
structure NdC (w : World) (x : Nde) (b : Nat) (W : World) : Prop where
  low : Below w.heap.size w W
  r0 : W.heap[w.heap.size]? = some (.cells Nde.zero.cells 73 (0, 0))
  r1 : W.heap[w.heap.size + 1]? = some (.cells x.cells 73 (0, 0))
set_option maxRecDepth 100000 in
set_option maxHeartbeats 800000 in
theorem node_at {w : World} {fb mb base : Nat} {vs : List Ndv} (h : Flt w fb mb base vs) (hok : FltOk vs) (i : Int) : Calls Tryz.prog 37 #[.pointer (some ⟨fb, 0, none⟩), .int .i64 i] w (NodeAt vs i w) := by
  obtain ⟨W0, hW0⟩ : ∃ W0, W0 = w.alloc (.cells Nde.zero.cells 73 (0, 0)) := ⟨_, rfl⟩
  have hb0 : Below w.heap.size w W0 := by rw [hW0]; exact (Below.refl _ _).alloc (Nat.le_refl _) _
  have hr0 : W0.heap[w.heap.size]? = some (.cells Nde.zero.cells 73 (0, 0)) := by rw [hW0]; exact blk_new _ _
  have hz0 : W0.heap.size = w.heap.size + 1 := by rw [hW0]; simp
  have hF0 := h.below hb0
  have hlc := len_flt hF0
  obtain ⟨n, hn⟩ : ∃ n, n = vs.length := ⟨_, rfl⟩
  rw [← hn] at hlc
  rw [hW0] at hlc
  have hln := hok.len
  rw [← hn] at hln
  by_cases hlo : i < 0
  · have dlo : decide (i < 0) = true := decide_eq_true hlo
    have hbad : i < 0 ∨ (vs.length : Int) ≤ i := .inl hlo
    replace hb0 := Lib.hid hb0; replace hr0 := Lib.hid hr0; replace hz0 := Lib.hid hz0; replace hF0 := Lib.hid hF0; replace hlc := Lib.hid hlc; replace hn := Lib.hid hn; replace hbad := Lib.hid hbad
    have hW0' := Lib.hid hW0
    clear hW0
    go_enter Tryz.func37, Tryz.ntmps37
    go_wp2
    refine bodyPost_ret (v := .tuple #[Nde.zero.val, .bool false]) (by simp [results, Tryz.results37, go_sem, Nde.zero, V4.zero] <;> rfl) rfl ⟨Nde.zero, false, rfl, ⟨strs_none _, Nat.le_refl _⟩, (Below.refl _ _).alloc (Nat.le_refl _) _, fun b off e => (by cases e), .inr ⟨rfl, rfl, hbad.out⟩⟩
  have dlo : decide (i < 0) = false := decide_eq_false hlo
  by_cases hhi : (n : Int) ≤ i
  · have dhi : decide ((n : Int) ≤ i) = true := decide_eq_true hhi
    have hbad : i < 0 ∨ (vs.length : Int) ≤ i := .inr (by rw [← hn]; exact hhi)
    replace hb0 := Lib.hid hb0; replace hr0 := Lib.hid hr0; replace hz0 := Lib.hid hz0; replace hF0 := Lib.hid hF0; replace hlc := Lib.hid hlc; replace hn := Lib.hid hn; replace hbad := Lib.hid hbad
    have hW0' := Lib.hid hW0
    clear hW0
    go_enter Tryz.func37, Tryz.ntmps37
    go_wp2_with fail
    refine hlc.out.mono ?_
    rintro e w1 ⟨rfl, rfl⟩
    go_wp2
    refine bodyPost_ret (v := .tuple #[Nde.zero.val, .bool false]) (by simp [results, Tryz.results37, go_sem, Nde.zero, V4.zero] <;> rfl) rfl ⟨Nde.zero, false, rfl, ⟨strs_none _, Nat.le_refl _⟩, (Below.refl _ _).alloc (Nat.le_refl _) _, fun b off e => (by cases e), .inr ⟨rfl, rfl, hbad.out⟩⟩
  have dhi : decide ((n : Int) ≤ i) = false := decide_eq_false hhi
  obtain ⟨k, rfl⟩ : ∃ k : Nat, i = k := ⟨i.toNat, by omega⟩
  have hkn : k < n := by omega
  have hkn' : (k : Int) < n := by omega
  have hk0 : (0 : Int) ≤ (k : Int) := by omega
  have dhi2 : decide (n ≤ k) = false := decide_eq_false (by omega)
  obtain ⟨nv, xs, h1, h2, h3⟩ := hF0.ex
  have hnx : n = xs.length := by rw [hn, ← h2, List.length_map]
  obtain ⟨x, hx⟩ : ∃ x, xs[k]? = some x := ⟨_, List.getElem?_eq_getElem (by omega)⟩
  obtain ⟨g, cap, rfl⟩ := Joins.ownsRow_form h1.row (by omega)
  obtain ⟨g', e1, _, _, hcell⟩ := h1.cell hx
  have e2 : g = g' := by simpa [Value.ownBlock] using e1
  subst e2
  have hvk : vs[k]? = some x.pl := by rw [← h2]; exact pl_at hx
  have hone := (hok.all x.pl (List.mem_of_getElem? hvk)).ok.one
  have hfew := (hok.all x.pl (List.mem_of_getElem? hvk)).few
  have hxo := (h1.ok x (List.mem_of_getElem? hx)).1
  obtain ⟨nm, ⟨ca, cb, cc, cd⟩, po, pn, pc, ps⟩ := x
  have hpn : ps.length = pn := hxo.parts.len
  have hone' : 1 ≤ ps.length := hone
  have hfew' : ps.length ≤ 8 := hfew
  obtain ⟨y0, hy0⟩ := hxo.parts.get (i := 0) (by show 0 < pn; omega)
  obtain ⟨b, off, e, hbl, _⟩ := hxo.parts.cell 0 y0 hy0
  have e' : po = some ⟨b, off, none⟩ := e
  subst e'
  have z0 : W0.cell? ⟨g, k * 6, none⟩ = some (.string nm) := hcell 0 (by omega)
  have z1 : W0.cell? ⟨g, k * 6 + 1, none⟩ = some (.int .i64 ca) := hcell 1 (by omega)
  have z2 : W0.cell? ⟨g, k * 6 + 2, none⟩ = some (.int .i64 cb) := hcell 2 (by omega)
  have z3 : W0.cell? ⟨g, k * 6 + 3, none⟩ = some (.int .i64 cc) := hcell 3 (by omega)
  have z4 : W0.cell? ⟨g, k * 6 + 4, none⟩ = some (.int .i64 cd) := hcell 4 (by omega)
  have z5 : W0.cell? ⟨g, k * 6 + 5, none⟩ = some (.slice (some ⟨b, off, none⟩) pn pc) := hcell 5 (by omega)
  have f0 : W0.cell? ⟨fb, 0, none⟩ = some (.slice (some ⟨g, 0, none⟩) n cap) := by rw [hnx]; exact blk_cell h1.head 0
  obtain ⟨W1, hW1⟩ : ∃ W1, W1 = W0.alloc (.cells (⟨nm, ⟨ca, cb, cc, cd⟩, some ⟨b, off, none⟩, pn, pc, ps⟩ : Nde).cells 73 (0, 0)) := ⟨_, rfl⟩
  have hb1 : Below W0.heap.size W0 W1 := by rw [hW1]; exact (Below.refl _ _).alloc (Nat.le_refl _) _
  have hq1 : W1.heap[w.heap.size + 1]? = some (.cells (⟨nm, ⟨ca, cb, cc, cd⟩, some ⟨b, off, none⟩, pn, pc, ps⟩ : Nde).cells 73 (0, 0)) := by rw [hW1]; exact blk_at _ _ hz0.symm
  have hxo1 := hxo.low hb1
  have hcl := Tryz.slices_Clone_string b off pn pc ps W1 (by omega) (by omega) fun j hj => by
    obtain ⟨b', off', e, _, hc⟩ := hxo1.parts.cell j (ps[j]'hj) (by simp [hj])
    cases e
    rw [hc]
    simp [List.getD, hj]
  rw [List.take_of_length_le (by omega)] at hcl
  have p5 : W1.cell? ⟨w.heap.size + 1, 5, none⟩ = some (.slice (some ⟨b, off, none⟩) pn pc) := blk_cell hq1 5
  replace hb0 := Lib.hid hb0; replace hr0 := Lib.hid hr0; replace hz0 := Lib.hid hz0; replace hF0 := Lib.hid hF0; replace hn := Lib.hid hn; replace hnx := Lib.hid hnx; replace hx := Lib.hid hx; replace h1 := Lib.hid h1; replace h2 := Lib.hid h2; replace h3 := Lib.hid h3; replace hvk := Lib.hid hvk; replace hone := Lib.hid hone; replace hfew := Lib.hid hfew; replace hxo := Lib.hid hxo; replace hpn := Lib.hid hpn; replace hone' := Lib.hid hone'; replace hfew' := Lib.hid hfew'; replace hy0 := Lib.hid hy0; replace hb1 := Lib.hid hb1; replace hq1 := Lib.hid hq1; replace hxo1 := Lib.hid hxo1; replace hcl := Lib.hid hcl; replace hcell := Lib.hid hcell; replace e1 := Lib.hid e1; replace hok := Lib.hid hok; replace h := Lib.hid h; replace p5 := Lib.hid p5
  rw [hW1, hW0] at hcl p5
  rw [hW0] at z0 z1 z2 z3 z4 z5 f0
  have hW0' := Lib.hid hW0
  have hW1' := Lib.hid hW1
  clear hW0 hW1
  go_enter Tryz.func37, Tryz.ntmps37
  go_wp2_with fail
  refine hlc.mono ?_
  rintro e w1 ⟨rfl, rfl⟩
  go_wp2_with fail
  refine hcl.out.mono ?_
  rintro e w3 ⟨v', rfl, hown, hne, hb3⟩
  rw [← hW0'.out, ← hW1'.out] at hown hb3
  have hpos : 0 < pn := by have := hone'.out; have := hpn.out; omega
  obtain ⟨g3, cap3, rfl⟩ := Joins.ownsRow_form hown hpos
  have hg3 := World.ownsRow.lt hown g3 rfl
  have hz1 : W1.heap.size = w.heap.size + 2 := by rw [hW1'.out, World.size_alloc, hz0.out]
  have hs3 := strs_of_own hown (by have := hfew'.out; have := hpn.out; omega)
  have hat3 := owns_at hown
  have hcap3 := owns_cap hown
  have hr3 : w3.heap[w.heap.size]? = some (.cells Nde.zero.cells 73 (0, 0)) := blk_below hb3 (blk_below hb1.out hr0.out (blk_lt hr0.out)) (by omega)
  have hq3 := blk_below hb3 hq1.out (blk_lt hq1.out)
  have hlow3 : Below w.heap.size w w3 := hb0.out.trans ((hb1.out.trans (hb3.mono hb1.out.size)).mono hb0.out.size)
  have c0 : w3.cell? ⟨w.heap.size + 1, 0, none⟩ = some (.string nm) := blk_cell hq3 0
  have c1 : w3.cell? ⟨w.heap.size + 1, 1, none⟩ = some (.int .i64 ca) := blk_cell hq3 1
  have c2 : w3.cell? ⟨w.heap.size + 1, 2, none⟩ = some (.int .i64 cb) := blk_cell hq3 2
  have c3 : w3.cell? ⟨w.heap.size + 1, 3, none⟩ = some (.int .i64 cc) := blk_cell hq3 3
  have c4 : w3.cell? ⟨w.heap.size + 1, 4, none⟩ = some (.int .i64 cd) := blk_cell hq3 4
  have c5 : w3.cell? ⟨w.heap.size + 1, 5, none⟩ = some (.slice (some ⟨b, off, none⟩) pn pc) := blk_cell hq3 5
  have fq := blk_free hq3
  have b0 : w3.cell? ⟨w.heap.size, 0, none⟩ = some (.string ByteArray.empty) := blk_cell hr3 0
  have b1 : w3.cell? ⟨w.heap.size, 1, none⟩ = some (.int .i64 0) := blk_cell hr3 1
  have b2 : w3.cell? ⟨w.heap.size, 2, none⟩ = some (.int .i64 0) := blk_cell hr3 2
  have b3 : w3.cell? ⟨w.heap.size, 3, none⟩ = some (.int .i64 0) := blk_cell hr3 3
  have b4 : w3.cell? ⟨w.heap.size, 4, none⟩ = some (.int .i64 0) := blk_cell hr3 4
  have b5 : w3.cell? ⟨w.heap.size, 5, none⟩ = some (.slice none 0 0) := blk_cell hr3 5
  have fr := blk_free hr3
  have hl3 := blk_lt hq3
  have he : ∀ v v0 v1 v2 v3 v4 v5, Below w.heap.size w (((((((w3.setCell ⟨w.heap.size + 1, 5, none⟩ v).setCell ⟨w.heap.size, 0, none⟩ v0).setCell ⟨w.heap.size, 1, none⟩ v1).setCell ⟨w.heap.size, 2, none⟩ v2).setCell ⟨w.heap.size, 3, none⟩ v3).setCell ⟨w.heap.size, 4, none⟩ v4).setCell ⟨w.heap.size, 5, none⟩ v5) := fun v v0 v1 v2 v3 v4 v5 =>
    ((((((hlow3.setCell (Nat.le_succ _) _).setCell (Nat.le_refl _) _).setCell (Nat.le_refl _) _).setCell (Nat.le_refl _) _).setCell (Nat.le_refl _) _).setCell (Nat.le_refl _) _).setCell (Nat.le_refl _) _
  have hrow : ∀ v v0 v1 v2 v3 v4 v5, (((((((w3.setCell ⟨w.heap.size + 1, 5, none⟩ v).setCell ⟨w.heap.size, 0, none⟩ v0).setCell ⟨w.heap.size, 1, none⟩ v1).setCell ⟨w.heap.size, 2, none⟩ v2).setCell ⟨w.heap.size, 3, none⟩ v3).setCell ⟨w.heap.size, 4, none⟩ v4).setCell ⟨w.heap.size, 5, none⟩ v5).heap[g3]? = w3.heap[g3]? := fun v v0 v1 v2 v3 v4 v5 => by
    have hne : g3 ≠ w.heap.size := by omega
    have hne2 : g3 ≠ w.heap.size + 1 := by omega
    rw [heap_set_other hne, heap_set_other hne, heap_set_other hne, heap_set_other hne, heap_set_other hne, heap_set_other hne, heap_set_other hne2]
  have hsz9 : ∀ v v0 v1 v2 v3 v4 v5, (((((((w3.setCell ⟨w.heap.size + 1, 5, none⟩ v).setCell ⟨w.heap.size, 0, none⟩ v0).setCell ⟨w.heap.size, 1, none⟩ v1).setCell ⟨w.heap.size, 2, none⟩ v2).setCell ⟨w.heap.size, 3, none⟩ v3).setCell ⟨w.heap.size, 4, none⟩ v4).setCell ⟨w.heap.size, 5, none⟩ v5).heap.size = w3.heap.size := fun v v0 v1 v2 v3 v4 v5 => by simp [World.setCell]
  clear z0 z1 z2 z3 z4 z5 f0
  replace hown := Lib.hid hown; replace hne := Lib.hid hne; replace hb3 := Lib.hid hb3; replace hs3 := Lib.hid hs3; replace hat3 := Lib.hid hat3; replace hr3 := Lib.hid hr3; replace hq3 := Lib.hid hq3; replace hlow3 := Lib.hid hlow3; replace he := Lib.hid he; replace hrow := Lib.hid hrow; replace hsz9 := Lib.hid hsz9; replace hz1 := Lib.hid hz1
  go_wp2
  refine bodyPost_ret (v := .tuple #[(⟨nm, ⟨ca, cb, cc, cd⟩, some ⟨g3, 0, none⟩, pn, cap3, ps⟩ : Nde).val, .bool true]) (by simp [results, Tryz.results37, go_sem, b0, b1, b2, b3, b4, b5]) rfl ?_
  have hX := hrow.out (.slice (some ⟨g3, 0, none⟩) pn cap3) (.string nm) (.int .i64 ca) (.int .i64 cb) (.int .i64 cc) (.int .i64 cd) (.slice (some ⟨g3, 0, none⟩) pn cap3)
  have hY := hsz9.out (.slice (some ⟨g3, 0, none⟩) pn cap3) (.string nm) (.int .i64 ca) (.int .i64 cb) (.int .i64 cc) (.int .i64 cd) (.slice (some ⟨g3, 0, none⟩) pn cap3)
  have hZ := he.out (.slice (some ⟨g3, 0, none⟩) pn cap3) (.string nm) (.int .i64 ca) (.int .i64 cb) (.int .i64 cc) (.int .i64 cd) (.slice (some ⟨g3, 0, none⟩) pn cap3)
  generalize ((((((w3.setCell ⟨w.heap.size + 1, 5, none⟩ (.slice (some ⟨g3, 0, none⟩) pn cap3)).setCell ⟨w.heap.size, 0, none⟩ (.string nm)).setCell ⟨w.heap.size, 1, none⟩ (.int .i64 ca)).setCell ⟨w.heap.size, 2, none⟩ (.int .i64 cb)).setCell ⟨w.heap.size, 3, none⟩ (.int .i64 cc)).setCell ⟨w.heap.size, 4, none⟩ (.int .i64 cd)).setCell ⟨w.heap.size, 5, none⟩ (.slice (some ⟨g3, 0, none⟩) pn cap3) = X at hX hY hZ ⊢
  obtain ⟨c9, hc9⟩ := hat3.out
  refine ⟨⟨nm, ⟨ca, cb, cc, cd⟩, some ⟨g3, 0, none⟩, pn, cap3, ps⟩, true, rfl, ⟨strs_keep hs3.out (Nat.le_of_eq hY.symm) fun b' off' e' _ => by cases e'; exact hX, hcap3⟩, hZ, fun b' off' e' => ?_, .inl ⟨rfl, by omega, ?_⟩⟩
  · have e2 : g3 = b' := by injection e' with e'; injection e' with e'
    subst e2
    exact ⟨by have := hz1.out; have := hg3.1; omega, c9, hX.trans hc9⟩
  · show vs[k]? = _
    rw [hvk.out]; rfl
/-- are two nodes the same? -/
def NodesPost (x y : Nde) (w : World) (e : Ending) (w' : World) : Prop := e = .returned (.bool (decide (x.parts = y.parts) && decide (x.name = y.name) && decide (x.cap = y.cap))) ∧ Below w.heap.size w w'
end Go.Proofs.YteoihdkaoipocaaGreatDoor

/- corveeref03.Read: the amount of a text. -/
namespace Go.Proofs.YteoihdkaoipocaaGreatDoor
open Go.RowKit Go.Maps Go.Shelf

def mx4 (v : V4) (k : Nat) : V4 := ⟨if 0 < k then v.a else 0, if 1 < k then v.b else 0, if 2 < k then v.c else 0, if 3 < k then v.d else 0⟩
structure RvW (w : World) (vb : Nat) (so : Option Addr) (xs : List ByteArray) (v : V4) (W : World) : Prop where
  low : Below w.heap.size w W
  gt : w.heap.size < vb
  r0 : W.heap[w.heap.size]? = some (.cells V4.zero.cells 23 (0, 0))
  r1 : W.heap[vb]? = some (.cells v.cells 23 (0, 0))
  strs : StrsAt W so 4 xs
theorem RvW.below {w W W' : World} {vb : Nat} {so : Option Addr} {xs : List ByteArray} {v : V4} (h : RvW w vb so xs v W) (hb : Below W.heap.size W W') : RvW w vb so xs v W' :=
  ⟨h.low.trans (hb.mono h.low.size), h.gt, blk_below hb h.r0 (blk_lt h.r0), blk_below hb h.r1 (blk_lt h.r1), h.strs.low hb⟩
theorem RvW.set {w W : World} {vb : Nat} {so : Option Addr} {xs : List ByteArray} {v v' : V4} (h : RvW w vb so xs v W) (o : Nat) (x : Value) (e : v.cells.setIfInBounds o x = v'.cells) (hso : ∀ b off, so = some ⟨b, off, none⟩ → b ≠ vb) : RvW w vb so xs v' (W.setCell ⟨vb, o, none⟩ x) :=
  ⟨h.low.setCell (Nat.le_of_lt h.gt) _, h.gt, blk_set_other (Nat.ne_of_lt h.gt) _ h.r0, by rw [blk_set h.r1, e], h.strs.len, h.strs.max, fun i x hx => by
    obtain ⟨b, off, e, hlt, hc⟩ := h.strs.cell i x hx
    exact ⟨b, off, e, by simpa [World.setCell] using hlt, (World.cell?_of_block (a := ⟨b, off + i, none⟩) (w := W) (heap_set_other (hso b off e))).trans hc⟩⟩
theorem okn_no {x : Int} (h : x < 0 ∨ 1073741824 < x) : okn x = false := by
  unfold okn
  rcases h with h | h
  · rw [decide_eq_false (by omega)]; rfl
  · rw [decide_eq_false (p := x ≤ 1073741824) (by omega)]; simp
theorem rv_bad {s : ByteArray} {j : Nat} (hl : (cutAll 44 s.data.toList).length = 4) (hj : j < 4) (h : okn (pnum (cutAll 44 s.data.toList) j) = false) : vecOf s = (V4.zero, 11) := by
  unfold vecOf
  rw [if_pos hl]
  unfold V4.told
  rw [if_neg]
  rw [V4.right, vecP]
  rcases (show j = 0 ∨ j = 1 ∨ j = 2 ∨ j = 3 by omega) with rfl | rfl | rfl | rfl <;> rw [h] <;> simp
theorem rv_good {s : ByteArray} (hl : (cutAll 44 s.data.toList).length = 4) (h : ∀ j, j < 4 → okn (pnum (cutAll 44 s.data.toList) j) = true) : vecOf s = (vecP (cutAll 44 s.data.toList), 0) := by
  unfold vecOf
  rw [if_pos hl]
  unfold V4.told
  rw [if_pos]
  rw [V4.right, vecP, h 0 (by omega), h 1 (by omega), h 2 (by omega), h 3 (by omega)]
  rfl
set_option maxRecDepth 100000 in
set_option maxHeartbeats 6400000 in
theorem rvread_any (s : ByteArray) (w : World) (hs : s.size ≤ 4294967200) : Calls Tryz.prog 70 #[.string s] w fun e w' => e = .returned (.tuple #[(vecOf s).1.val, .int .i64 (vecOf s).2]) ∧ Below w.heap.size w w' := by
  obtain ⟨W0, hW0⟩ : ∃ W0, W0 = w.alloc (.cells V4.zero.cells 23 (0, 0)) := ⟨_, rfl⟩
  have hb0 : Below w.heap.size w W0 := by rw [hW0]; exact (Below.refl _ _).alloc (Nat.le_refl _) _
  have hr0 : W0.heap[w.heap.size]? = some (.cells V4.zero.cells 23 (0, 0)) := by rw [hW0]; exact blk_new _ _
  have hct := rcut_any s 44 W0 (by omega)
  have h44 : (((44 : UInt8).toNat : Nat) : Int) = 44 := rfl
  rw [h44] at hct
  clear h44
  have hsize : ∀ x, x ∈ (cutAll 44 s.data.toList).map ofL → x.size ≤ maxLen := fun x hx => by
    obtain ⟨p, hp, rfl⟩ := List.mem_map.1 hx
    have := cutAll_le hp
    rw [ofL_size]
    have h2 := toL_len s
    have : maxLen = 9223372036854775807 := rfl
    omega
  obtain ⟨L, hL⟩ : ∃ L, L = (cutAll 44 s.data.toList).length := ⟨_, rfl⟩
  rw [hW0] at hct
  have hW0' := Lib.hid hW0
  clear hW0
  replace hb0 := Lib.hid hb0; replace hr0 := Lib.hid hr0; replace hct := Lib.hid hct; replace hL := Lib.hid hL
  have hsize' := Lib.hid hsize
  clear hsize
  go_enter Tryz.func70, Tryz.ntmps70
  go_wp2_with fail
  refine hct.out.mono ?_
  rintro e w1 ⟨so, n, c, rfl, hnc, hst, hsob, hb1⟩
  rw [← hW0'.out] at hb1 hsob
  have hlen : (cutAll 44 s.data.toList).length = n := by have := hst.len; rwa [List.length_map] at this
  have hlow1 : Below w.heap.size w w1 := hb0.out.trans (hb1.mono hb0.out.size)
  have hr1 := blk_below hb1 hr0.out (blk_lt hr0.out)
  have hmx := hst.max
  by_cases h4 : n = 4
  · subst h4
    have hr00 := blk_lt hr1
    have hso : ∀ b off, so = some ⟨b, off, none⟩ → b ≠ w1.heap.size := fun b off e => by
      obtain ⟨x, hx⟩ := hst.get (i := 0) (by omega)
      obtain ⟨b', off', e', hlt, _⟩ := hst.cell 0 x hx
      exact Nat.ne_of_lt (by rw [e] at e'; cases e'; exact hlt)
    obtain ⟨vb, hvb⟩ : ∃ vb, vb = w1.heap.size := ⟨_, rfl⟩
    have hR0 : RvW w vb so ((cutAll 44 s.data.toList).map ofL) (mx4 (vecP (cutAll 44 s.data.toList)) 0) (w1.alloc (.cells V4.zero.cells 23 (0, 0))) :=
      ⟨hlow1.alloc hlow1.size _, by omega, blk_old _ hr1, blk_at _ _ hvb, hst.low ((Below.refl _ _).alloc (Nat.le_refl _) _)⟩
    rw [← hvb] at hso
    have hsize := hsize'.out
    have hbadj : ∀ j, j < 4 → okn (pnum (cutAll 44 s.data.toList) j) = false → vecOf s = (V4.zero, 11) := fun j hj h => rv_bad hlen hj h
    have hgood := rv_good hlen
    have hnum0 : ∀ j x, ((cutAll 44 s.data.toList).map ofL)[j]? = some x → numOf x 10 = pnum (cutAll 44 s.data.toList) j := fun j x hx => by
      rw [List.getElem?_map] at hx
      obtain ⟨p, hp, rfl⟩ := Option.map_eq_some_iff.1 hx
      unfold pnum
      rw [List.getD, hp]; rfl
    obtain ⟨P, hP⟩ : ∃ P, P = vecP (cutAll 44 s.data.toList) := ⟨_, rfl⟩
    rw [← hP] at hR0 hgood
    obtain ⟨pa, pb, pc, pd⟩ := P
    have hpn : ∀ j, j < 4 → pnum (cutAll 44 s.data.toList) j = (V4.get ⟨pa, pb, pc, pd⟩ j) := fun j hj => by
      rw [hP]
      rcases (show j = 0 ∨ j = 1 ∨ j = 2 ∨ j = 3 by omega) with rfl | rfl | rfl | rfl <;> rfl
    have hnum : ∀ j x, ((cutAll 44 s.data.toList).map ofL)[j]? = some x → numOf x 10 = V4.get ⟨pa, pb, pc, pd⟩ j := fun j x hx => by
      rw [hnum0 j x hx]
      refine hpn j ?_
      have := (List.getElem?_eq_some_iff.1 hx).1
      rw [List.length_map, hlen] at this
      exact this
    clear hnum0
    have hbadj' := Lib.hid hbadj
    have hgood' := Lib.hid hgood
    have hnum' := Lib.hid hnum
    have hpn' := Lib.hid hpn
    clear hbadj hgood hnum hpn hsize
    replace hso := Lib.hid hso; replace hlow1 := Lib.hid hlow1; replace hr1 := Lib.hid hr1; replace hst := Lib.hid hst; replace hsob := Lib.hid hsob; replace hb1 := Lib.hid hb1; replace hP := Lib.hid hP; replace hR0 := Lib.hid hR0; replace hlen := Lib.hid hlen
    have hvb' := Lib.hid hvb
    rw [hvb'.out] at hR0
    go_wp2
    rw [← hvb'.out] at hR0 ⊢
    clear hvb
    go_loopw [6] (fun i wq => ∃ j : Nat, j ≤ 4 ∧ i = .int .i64 j ∧ Hid (∀ j', j' < j → okn (pnum (cutAll 44 s.data.toList) j') = true) ∧ Hid (RvW w vb so ((cutAll 44 s.data.toList).map ofL) (mx4 ⟨pa, pb, pc, pd⟩ j) wq)) (fun i _ => 4 - (intOf i).toNat)
    case atStart => exact ⟨0, by omega, rfl, fun j h => absurd h (Nat.not_lt_zero _), hR0.out⟩
    case round =>
      obtain ⟨j, hj, hjv, hok, hM⟩ := hrel
      rcases (show j = 0 ∨ j = 1 ∨ j = 2 ∨ j = 3 ∨ j = 4 by omega) with rfl | rfl | rfl | rfl | rfl
      · have hjv' : u6 = .int .i64 0 := hjv
        clear hjv
        subst hjv'
        obtain ⟨x, hx⟩ := hM.out.strs.get (i := 0) (by omega)
        obtain ⟨b, off, rfl, hb, a0⟩ := hM.out.strs.cell 0 x hx
        try rw [Nat.add_zero] at a0
        have hpx : numOf x 10 = pa := hnum'.out 0 x hx
        have hxz : x.size ≤ maxLen := hsize'.out x (List.mem_of_getElem? hx)
        have hcall : Calls Tryz.prog 106 #[.string x, .int .i64 10] wr fun e w' => e = .returned (.int .i64 (numOf x 10)) ∧ Below wr.heap.size wr w' := rnum_any x 10 wr hxz (by omega)
        rw [hpx] at hcall
        replace hx := Lib.hid hx; replace hpx := Lib.hid hpx; replace hcall := Lib.hid hcall
        go_wp2_with fail
        refine hcall.out.mono ?_
        rintro e wq ⟨rfl, hbq⟩
        have hMq := hM.out.below hbq
        have r1 := hMq.r1
        have r0 := hMq.r0
        have b0 : wq.cell? ⟨w.heap.size, 0, none⟩ = some (.int .i64 0) := blk_cell r0 0
        have b1 : wq.cell? ⟨w.heap.size, 1, none⟩ = some (.int .i64 0) := blk_cell r0 1
        have b2 : wq.cell? ⟨w.heap.size, 2, none⟩ = some (.int .i64 0) := blk_cell r0 2
        have b3 : wq.cell? ⟨w.heap.size, 3, none⟩ = some (.int .i64 0) := blk_cell r0 3
        have fr := blk_free r0
        have fv := blk_free r1
        have q0 : wq.cell? ⟨vb, 0, none⟩ = some (.int .i64 0) := blk_cell r1 0
        have he : ∀ v0 v1 v2 v3, Below w.heap.size w ((((wq.setCell ⟨w.heap.size, 0, none⟩ v0).setCell ⟨w.heap.size, 1, none⟩ v1).setCell ⟨w.heap.size, 2, none⟩ v2).setCell ⟨w.heap.size, 3, none⟩ v3) := fun v0 v1 v2 v3 =>
          (((hMq.low.setCell (Nat.le_refl _) _).setCell (Nat.le_refl _) _).setCell (Nat.le_refl _) _).setCell (Nat.le_refl _) _
        have l1 := blk_lt r1
        have hgt := hMq.gt
        replace hMq := Lib.hid hMq; replace r1 := Lib.hid r1; replace r0 := Lib.hid r0; replace hbq := Lib.hid hbq; replace he := Lib.hid he
        by_cases hlo : pa < 0
        · have dlo : decide (pa < 0) = true := decide_eq_true hlo
          have hbad := hbadj'.out 0 (by omega) (by rw [hpn'.out 0 (by omega)]; exact okn_no (.inl hlo))
          replace hbad := Lib.hid hbad
          go_wp2
          refine bodyPost_ret (v := .tuple #[V4.zero.val, .int .i64 11]) (by simp [results, Tryz.results70, go_sem, b0, b1, b2, b3, V4.zero]) rfl ⟨by rw [hbad.out], he.out _ _ _ _⟩
        · have dlo : decide (pa < 0) = false := decide_eq_false hlo
          by_cases hhi : 1073741824 < pa
          · have dhi : decide (1073741824 < pa) = true := decide_eq_true hhi
            have hbad := hbadj'.out 0 (by omega) (by rw [hpn'.out 0 (by omega)]; exact okn_no (.inr hhi))
            replace hbad := Lib.hid hbad
            go_wp2
            refine bodyPost_ret (v := .tuple #[V4.zero.val, .int .i64 11]) (by simp [results, Tryz.results70, go_sem, b0, b1, b2, b3, V4.zero]) rfl ⟨by rw [hbad.out], he.out _ _ _ _⟩
          · have dhi : decide (1073741824 < pa) = false := decide_eq_false hhi
            have hM2 : RvW w vb (some ⟨b, off, none⟩) ((cutAll 44 s.data.toList).map ofL) (mx4 ⟨pa, pb, pc, pd⟩ 1) (wq.setCell ⟨vb, 0, none⟩ (.int .i64 pa)) := hMq.out.set 0 _ rfl hso.out
            have hok2 : ∀ j, j < 1 → okn (pnum (cutAll 44 s.data.toList) j) = true := fun j hj => by
              by_cases q : j = 0
              · subst q
                rw [hpn'.out 0 (by omega)]
                show okn pa = true
                unfold okn
                rw [decide_eq_true (show (0 : Int) ≤ pa by omega), decide_eq_true (show pa ≤ 1073741824 by omega)]; rfl
              · exact hok.out j (by omega)
            replace hM2 := Lib.hid hM2; replace hok2 := Lib.hid hok2
            go_wp2
            go_roundw
            case rel => exact ⟨1, by omega, rfl, hok2.out, hM2.out⟩
            case measure => simp [intOf]
      · have hjv' : u6 = .int .i64 1 := hjv
        clear hjv
        subst hjv'
        obtain ⟨x, hx⟩ := hM.out.strs.get (i := 1) (by omega)
        obtain ⟨b, off, rfl, hb, a0⟩ := hM.out.strs.cell 1 x hx
        try rw [Nat.add_zero] at a0
        have hpx : numOf x 10 = pb := hnum'.out 1 x hx
        have hxz : x.size ≤ maxLen := hsize'.out x (List.mem_of_getElem? hx)
        have hcall : Calls Tryz.prog 106 #[.string x, .int .i64 10] wr fun e w' => e = .returned (.int .i64 (numOf x 10)) ∧ Below wr.heap.size wr w' := rnum_any x 10 wr hxz (by omega)
        rw [hpx] at hcall
        replace hx := Lib.hid hx; replace hpx := Lib.hid hpx; replace hcall := Lib.hid hcall
        go_wp2_with fail
        refine hcall.out.mono ?_
        rintro e wq ⟨rfl, hbq⟩
        have hMq := hM.out.below hbq
        have r1 := hMq.r1
        have r0 := hMq.r0
        have b0 : wq.cell? ⟨w.heap.size, 0, none⟩ = some (.int .i64 0) := blk_cell r0 0
        have b1 : wq.cell? ⟨w.heap.size, 1, none⟩ = some (.int .i64 0) := blk_cell r0 1
        have b2 : wq.cell? ⟨w.heap.size, 2, none⟩ = some (.int .i64 0) := blk_cell r0 2
        have b3 : wq.cell? ⟨w.heap.size, 3, none⟩ = some (.int .i64 0) := blk_cell r0 3
        have fr := blk_free r0
        have fv := blk_free r1
        have q0 : wq.cell? ⟨vb, 1, none⟩ = some (.int .i64 0) := blk_cell r1 1
        have he : ∀ v0 v1 v2 v3, Below w.heap.size w ((((wq.setCell ⟨w.heap.size, 0, none⟩ v0).setCell ⟨w.heap.size, 1, none⟩ v1).setCell ⟨w.heap.size, 2, none⟩ v2).setCell ⟨w.heap.size, 3, none⟩ v3) := fun v0 v1 v2 v3 =>
          (((hMq.low.setCell (Nat.le_refl _) _).setCell (Nat.le_refl _) _).setCell (Nat.le_refl _) _).setCell (Nat.le_refl _) _
        have l1 := blk_lt r1
        have hgt := hMq.gt
        replace hMq := Lib.hid hMq; replace r1 := Lib.hid r1; replace r0 := Lib.hid r0; replace hbq := Lib.hid hbq; replace he := Lib.hid he
        by_cases hlo : pb < 0
        · have dlo : decide (pb < 0) = true := decide_eq_true hlo
          have hbad := hbadj'.out 1 (by omega) (by rw [hpn'.out 1 (by omega)]; exact okn_no (.inl hlo))
          replace hbad := Lib.hid hbad
          go_wp2
          refine bodyPost_ret (v := .tuple #[V4.zero.val, .int .i64 11]) (by simp [results, Tryz.results70, go_sem, b0, b1, b2, b3, V4.zero]) rfl ⟨by rw [hbad.out], he.out _ _ _ _⟩
        · have dlo : decide (pb < 0) = false := decide_eq_false hlo
          by_cases hhi : 1073741824 < pb
          · have dhi : decide (1073741824 < pb) = true := decide_eq_true hhi
            have hbad := hbadj'.out 1 (by omega) (by rw [hpn'.out 1 (by omega)]; exact okn_no (.inr hhi))
            replace hbad := Lib.hid hbad
            go_wp2
            refine bodyPost_ret (v := .tuple #[V4.zero.val, .int .i64 11]) (by simp [results, Tryz.results70, go_sem, b0, b1, b2, b3, V4.zero]) rfl ⟨by rw [hbad.out], he.out _ _ _ _⟩
          · have dhi : decide (1073741824 < pb) = false := decide_eq_false hhi
            have hM2 : RvW w vb (some ⟨b, off, none⟩) ((cutAll 44 s.data.toList).map ofL) (mx4 ⟨pa, pb, pc, pd⟩ 2) (wq.setCell ⟨vb, 1, none⟩ (.int .i64 pb)) := hMq.out.set 1 _ rfl hso.out
            have hok2 : ∀ j, j < 2 → okn (pnum (cutAll 44 s.data.toList) j) = true := fun j hj => by
              by_cases q : j = 1
              · subst q
                rw [hpn'.out 1 (by omega)]
                show okn pb = true
                unfold okn
                rw [decide_eq_true (show (0 : Int) ≤ pb by omega), decide_eq_true (show pb ≤ 1073741824 by omega)]; rfl
              · exact hok.out j (by omega)
            replace hM2 := Lib.hid hM2; replace hok2 := Lib.hid hok2
            go_wp2
            go_roundw
            case rel => exact ⟨2, by omega, rfl, hok2.out, hM2.out⟩
            case measure => simp [intOf]
      · have hjv' : u6 = .int .i64 2 := hjv
        clear hjv
        subst hjv'
        obtain ⟨x, hx⟩ := hM.out.strs.get (i := 2) (by omega)
        obtain ⟨b, off, rfl, hb, a0⟩ := hM.out.strs.cell 2 x hx
        try rw [Nat.add_zero] at a0
        have hpx : numOf x 10 = pc := hnum'.out 2 x hx
        have hxz : x.size ≤ maxLen := hsize'.out x (List.mem_of_getElem? hx)
        have hcall : Calls Tryz.prog 106 #[.string x, .int .i64 10] wr fun e w' => e = .returned (.int .i64 (numOf x 10)) ∧ Below wr.heap.size wr w' := rnum_any x 10 wr hxz (by omega)
        rw [hpx] at hcall
        replace hx := Lib.hid hx; replace hpx := Lib.hid hpx; replace hcall := Lib.hid hcall
        go_wp2_with fail
        refine hcall.out.mono ?_
        rintro e wq ⟨rfl, hbq⟩
        have hMq := hM.out.below hbq
        have r1 := hMq.r1
        have r0 := hMq.r0
        have b0 : wq.cell? ⟨w.heap.size, 0, none⟩ = some (.int .i64 0) := blk_cell r0 0
        have b1 : wq.cell? ⟨w.heap.size, 1, none⟩ = some (.int .i64 0) := blk_cell r0 1
        have b2 : wq.cell? ⟨w.heap.size, 2, none⟩ = some (.int .i64 0) := blk_cell r0 2
        have b3 : wq.cell? ⟨w.heap.size, 3, none⟩ = some (.int .i64 0) := blk_cell r0 3
        have fr := blk_free r0
        have fv := blk_free r1
        have q0 : wq.cell? ⟨vb, 2, none⟩ = some (.int .i64 0) := blk_cell r1 2
        have he : ∀ v0 v1 v2 v3, Below w.heap.size w ((((wq.setCell ⟨w.heap.size, 0, none⟩ v0).setCell ⟨w.heap.size, 1, none⟩ v1).setCell ⟨w.heap.size, 2, none⟩ v2).setCell ⟨w.heap.size, 3, none⟩ v3) := fun v0 v1 v2 v3 =>
          (((hMq.low.setCell (Nat.le_refl _) _).setCell (Nat.le_refl _) _).setCell (Nat.le_refl _) _).setCell (Nat.le_refl _) _
        have l1 := blk_lt r1
        have hgt := hMq.gt
        replace hMq := Lib.hid hMq; replace r1 := Lib.hid r1; replace r0 := Lib.hid r0; replace hbq := Lib.hid hbq; replace he := Lib.hid he
        by_cases hlo : pc < 0
        · have dlo : decide (pc < 0) = true := decide_eq_true hlo
          have hbad := hbadj'.out 2 (by omega) (by rw [hpn'.out 2 (by omega)]; exact okn_no (.inl hlo))
          replace hbad := Lib.hid hbad
          go_wp2
          refine bodyPost_ret (v := .tuple #[V4.zero.val, .int .i64 11]) (by simp [results, Tryz.results70, go_sem, b0, b1, b2, b3, V4.zero]) rfl ⟨by rw [hbad.out], he.out _ _ _ _⟩
        · have dlo : decide (pc < 0) = false := decide_eq_false hlo
          by_cases hhi : 1073741824 < pc
          · have dhi : decide (1073741824 < pc) = true := decide_eq_true hhi
            have hbad := hbadj'.out 2 (by omega) (by rw [hpn'.out 2 (by omega)]; exact okn_no (.inr hhi))
            replace hbad := Lib.hid hbad
            go_wp2
            refine bodyPost_ret (v := .tuple #[V4.zero.val, .int .i64 11]) (by simp [results, Tryz.results70, go_sem, b0, b1, b2, b3, V4.zero]) rfl ⟨by rw [hbad.out], he.out _ _ _ _⟩
          · have dhi : decide (1073741824 < pc) = false := decide_eq_false hhi
            have hM2 : RvW w vb (some ⟨b, off, none⟩) ((cutAll 44 s.data.toList).map ofL) (mx4 ⟨pa, pb, pc, pd⟩ 3) (wq.setCell ⟨vb, 2, none⟩ (.int .i64 pc)) := hMq.out.set 2 _ rfl hso.out
            have hok2 : ∀ j, j < 3 → okn (pnum (cutAll 44 s.data.toList) j) = true := fun j hj => by
              by_cases q : j = 2
              · subst q
                rw [hpn'.out 2 (by omega)]
                show okn pc = true
                unfold okn
                rw [decide_eq_true (show (0 : Int) ≤ pc by omega), decide_eq_true (show pc ≤ 1073741824 by omega)]; rfl
              · exact hok.out j (by omega)
            replace hM2 := Lib.hid hM2; replace hok2 := Lib.hid hok2
            go_wp2
            go_roundw
            case rel => exact ⟨3, by omega, rfl, hok2.out, hM2.out⟩
            case measure => simp [intOf]
      · have hjv' : u6 = .int .i64 3 := hjv
        clear hjv
        subst hjv'
        obtain ⟨x, hx⟩ := hM.out.strs.get (i := 3) (by omega)
        obtain ⟨b, off, rfl, hb, a0⟩ := hM.out.strs.cell 3 x hx
        try rw [Nat.add_zero] at a0
        have hpx : numOf x 10 = pd := hnum'.out 3 x hx
        have hxz : x.size ≤ maxLen := hsize'.out x (List.mem_of_getElem? hx)
        have hcall : Calls Tryz.prog 106 #[.string x, .int .i64 10] wr fun e w' => e = .returned (.int .i64 (numOf x 10)) ∧ Below wr.heap.size wr w' := rnum_any x 10 wr hxz (by omega)
        rw [hpx] at hcall
        replace hx := Lib.hid hx; replace hpx := Lib.hid hpx; replace hcall := Lib.hid hcall
        go_wp2_with fail
        refine hcall.out.mono ?_
        rintro e wq ⟨rfl, hbq⟩
        have hMq := hM.out.below hbq
        have r1 := hMq.r1
        have r0 := hMq.r0
        have b0 : wq.cell? ⟨w.heap.size, 0, none⟩ = some (.int .i64 0) := blk_cell r0 0
        have b1 : wq.cell? ⟨w.heap.size, 1, none⟩ = some (.int .i64 0) := blk_cell r0 1
        have b2 : wq.cell? ⟨w.heap.size, 2, none⟩ = some (.int .i64 0) := blk_cell r0 2
        have b3 : wq.cell? ⟨w.heap.size, 3, none⟩ = some (.int .i64 0) := blk_cell r0 3
        have fr := blk_free r0
        have fv := blk_free r1
        have q0 : wq.cell? ⟨vb, 3, none⟩ = some (.int .i64 0) := blk_cell r1 3
        have he : ∀ v0 v1 v2 v3, Below w.heap.size w ((((wq.setCell ⟨w.heap.size, 0, none⟩ v0).setCell ⟨w.heap.size, 1, none⟩ v1).setCell ⟨w.heap.size, 2, none⟩ v2).setCell ⟨w.heap.size, 3, none⟩ v3) := fun v0 v1 v2 v3 =>
          (((hMq.low.setCell (Nat.le_refl _) _).setCell (Nat.le_refl _) _).setCell (Nat.le_refl _) _).setCell (Nat.le_refl _) _
        have l1 := blk_lt r1
        have hgt := hMq.gt
        replace hMq := Lib.hid hMq; replace r1 := Lib.hid r1; replace r0 := Lib.hid r0; replace hbq := Lib.hid hbq; replace he := Lib.hid he
        by_cases hlo : pd < 0
        · have dlo : decide (pd < 0) = true := decide_eq_true hlo
          have hbad := hbadj'.out 3 (by omega) (by rw [hpn'.out 3 (by omega)]; exact okn_no (.inl hlo))
          replace hbad := Lib.hid hbad
          go_wp2
          refine bodyPost_ret (v := .tuple #[V4.zero.val, .int .i64 11]) (by simp [results, Tryz.results70, go_sem, b0, b1, b2, b3, V4.zero]) rfl ⟨by rw [hbad.out], he.out _ _ _ _⟩
        · have dlo : decide (pd < 0) = false := decide_eq_false hlo
          by_cases hhi : 1073741824 < pd
          · have dhi : decide (1073741824 < pd) = true := decide_eq_true hhi
            have hbad := hbadj'.out 3 (by omega) (by rw [hpn'.out 3 (by omega)]; exact okn_no (.inr hhi))
            replace hbad := Lib.hid hbad
            go_wp2
            refine bodyPost_ret (v := .tuple #[V4.zero.val, .int .i64 11]) (by simp [results, Tryz.results70, go_sem, b0, b1, b2, b3, V4.zero]) rfl ⟨by rw [hbad.out], he.out _ _ _ _⟩
          · have dhi : decide (1073741824 < pd) = false := decide_eq_false hhi
            have hM2 : RvW w vb (some ⟨b, off, none⟩) ((cutAll 44 s.data.toList).map ofL) (mx4 ⟨pa, pb, pc, pd⟩ 4) (wq.setCell ⟨vb, 3, none⟩ (.int .i64 pd)) := hMq.out.set 3 _ rfl hso.out
            have hok2 : ∀ j, j < 4 → okn (pnum (cutAll 44 s.data.toList) j) = true := fun j hj => by
              by_cases q : j = 3
              · subst q
                rw [hpn'.out 3 (by omega)]
                show okn pd = true
                unfold okn
                rw [decide_eq_true (show (0 : Int) ≤ pd by omega), decide_eq_true (show pd ≤ 1073741824 by omega)]; rfl
              · exact hok.out j (by omega)
            replace hM2 := Lib.hid hM2; replace hok2 := Lib.hid hok2
            go_wp2
            go_roundw
            case rel => exact ⟨4, by omega, rfl, hok2.out, hM2.out⟩
            case measure => simp [intOf]
      · have hjv' : u6 = .int .i64 4 := hjv
        clear hjv
        subst hjv'
        have hg := hgood'.out hok.out
        have r1 := hM.out.r1
        have r0 := hM.out.r0
        have a0 : wr.cell? ⟨vb, 0, none⟩ = some (.int .i64 pa) := blk_cell r1 0
        have a1 : wr.cell? ⟨vb, 1, none⟩ = some (.int .i64 pb) := blk_cell r1 1
        have a2 : wr.cell? ⟨vb, 2, none⟩ = some (.int .i64 pc) := blk_cell r1 2
        have a3 : wr.cell? ⟨vb, 3, none⟩ = some (.int .i64 pd) := blk_cell r1 3
        have b0 : wr.cell? ⟨w.heap.size, 0, none⟩ = some (.int .i64 0) := blk_cell r0 0
        have b1 : wr.cell? ⟨w.heap.size, 1, none⟩ = some (.int .i64 0) := blk_cell r0 1
        have b2 : wr.cell? ⟨w.heap.size, 2, none⟩ = some (.int .i64 0) := blk_cell r0 2
        have b3 : wr.cell? ⟨w.heap.size, 3, none⟩ = some (.int .i64 0) := blk_cell r0 3
        have fr := blk_free r0
        have hgt := hM.out.gt
        have he : ∀ v0 v1 v2 v3, Below w.heap.size w ((((wr.setCell ⟨w.heap.size, 0, none⟩ v0).setCell ⟨w.heap.size, 1, none⟩ v1).setCell ⟨w.heap.size, 2, none⟩ v2).setCell ⟨w.heap.size, 3, none⟩ v3) := fun v0 v1 v2 v3 =>
          (((hM.out.low.setCell (Nat.le_refl _) _).setCell (Nat.le_refl _) _).setCell (Nat.le_refl _) _).setCell (Nat.le_refl _) _
        replace r1 := Lib.hid r1; replace r0 := Lib.hid r0; replace he := Lib.hid he; replace hg := Lib.hid hg
        go_wp2
        refine bodyPost_ret (v := .tuple #[V4.val ⟨pa, pb, pc, pd⟩, .int .i64 0]) (by simp [results, Tryz.results70, go_sem, b0, b1, b2, b3]) rfl ⟨by rw [hg.out], he.out _ _ _ _⟩
  · have hbad := vecOf_no (s := s) (by rw [hlen]; exact h4)
    have d4 : ((n : Int) != 4) = true := by rw [bne_iff_ne]; omega
    have b0 : w1.cell? ⟨w.heap.size, 0, none⟩ = some (.int .i64 0) := blk_cell hr1 0
    have b1 : w1.cell? ⟨w.heap.size, 1, none⟩ = some (.int .i64 0) := blk_cell hr1 1
    have b2 : w1.cell? ⟨w.heap.size, 2, none⟩ = some (.int .i64 0) := blk_cell hr1 2
    have b3 : w1.cell? ⟨w.heap.size, 3, none⟩ = some (.int .i64 0) := blk_cell hr1 3
    have fr := blk_free hr1
    have he : ∀ v0 v1 v2 v3, Below w.heap.size w ((((w1.setCell ⟨w.heap.size, 0, none⟩ v0).setCell ⟨w.heap.size, 1, none⟩ v1).setCell ⟨w.heap.size, 2, none⟩ v2).setCell ⟨w.heap.size, 3, none⟩ v3) := fun v0 v1 v2 v3 =>
      (((hlow1.setCell (Nat.le_refl _) _).setCell (Nat.le_refl _) _).setCell (Nat.le_refl _) _).setCell (Nat.le_refl _) _
    replace hlow1 := Lib.hid hlow1; replace hr1 := Lib.hid hr1; replace hst := Lib.hid hst; replace hsob := Lib.hid hsob; replace hb1 := Lib.hid hb1; replace hlen := Lib.hid hlen; replace hbad := Lib.hid hbad; replace h4 := Lib.hid h4; replace he := Lib.hid he
    go_wp2
    refine bodyPost_ret (v := .tuple #[V4.zero.val, .int .i64 11]) (by simp [results, Tryz.results70, go_sem, b0, b1, b2, b3, V4.zero]) rfl ⟨by rw [hbad.out], he.out _ _ _ _⟩
end Go.Proofs.YteoihdkaoipocaaGreatDoor

/- corveeref05.node: the node of a line. -/
namespace Go.Proofs.YteoihdkaoipocaaGreatDoor
open Go.RowKit Go.Maps Go.Shelf

structure RnW (w : World) (vb b : Nat) (xs : List ByteArray) (v : V4) (W : World) : Prop where
  low : Below w.heap.size w W
  r0 : W.heap[w.heap.size]? = some (.cells Nde.zero.cells 73 (0, 0))
  r1 : W.heap[vb]? = some (.cells v.cells 23 (0, 0))
  strs : StrsAt W (some ⟨b, 0, none⟩) xs.length xs
  blk : ∃ c, W.heap[b]? = some (.cells c 9 (0, 0))
theorem RnW.below {w W W' : World} {vb b : Nat} {xs : List ByteArray} {v : V4} (h : RnW w vb b xs v W) (hb : Below W.heap.size W W') : RnW w vb b xs v W' := by
  obtain ⟨c, hc⟩ := h.blk
  exact ⟨h.low.trans (hb.mono h.low.size), blk_below hb h.r0 (blk_lt h.r0), blk_below hb h.r1 (blk_lt h.r1), h.strs.low hb, c, blk_below hb hc (blk_lt hc)⟩
theorem RnW.drew {w W : World} {vb b : Nat} {xs : List ByteArray} {v : V4} (h : RnW w vb b xs v W) : RnW w vb b xs v W.drew := ⟨h.low.drew, h.r0, h.r1, ⟨h.strs.len, h.strs.max, h.strs.cell⟩, h.blk⟩
theorem node_no {s : ByteArray} (h : ¬ nodeOk s) : nodeOf s = none := nodeOf_no h
set_option maxRecDepth 100000 in
set_option maxHeartbeats 6400000 in
theorem rnode_any (s : ByteArray) (w : World) (hs : s.size ≤ 4294967200) : Calls Tryz.prog 32 #[.string s] w (NodePost s w) := by
  obtain ⟨i9, hi9, hz9, hz91, hz92⟩ := info_parts info9
  obtain ⟨W0, hW0⟩ : ∃ W0, W0 = w.alloc (.cells Nde.zero.cells 73 (0, 0)) := ⟨_, rfl⟩
  have hb0 : Below w.heap.size w W0 := by rw [hW0]; exact (Below.refl _ _).alloc (Nat.le_refl _) _
  have hr0 : W0.heap[w.heap.size]? = some (.cells Nde.zero.cells 73 (0, 0)) := by rw [hW0]; exact blk_new _ _
  have hct := rcut_any s 32 W0 (by omega)
  have h32 : (((32 : UInt8).toNat : Nat) : Int) = 32 := rfl
  rw [h32] at hct
  clear h32
  rw [show (cutAll 32 s.data.toList).map ofL = words s from rfl] at hct
  have hsize : ∀ x, x ∈ words s → x.size ≤ s.size := fun x hx => words_le hx
  have hmany := words_many s
  rw [hW0] at hct
  have hW0' := Lib.hid hW0
  clear hW0
  obtain ⟨ws, hws⟩ : ∃ ws, ws = words s := ⟨_, rfl⟩
  rw [← hws] at hct hsize hmany
  have hsize' := Lib.hid hsize
  clear hsize
  replace hb0 := Lib.hid hb0; replace hr0 := Lib.hid hr0; replace hct := Lib.hid hct; replace hmany := Lib.hid hmany; replace hws := Lib.hid hws
  go_enter Tryz.func32, Tryz.ntmps32
  go_wp2_with fail
  refine hct.out.mono ?_
  rintro e w1 ⟨so, n, c, rfl, hnc, hst, hsob, hb1⟩
  rw [← hW0'.out] at hb1 hsob
  have hlen : ws.length = n := hst.len
  have hlow1 : Below w.heap.size w w1 := hb0.out.trans (hb1.mono hb0.out.size)
  have hr1 := blk_below hb1 hr0.out (blk_lt hr0.out)
  have hmx := hst.max
  by_cases h3 : n < 3
  · have d3 : decide ((n : Int) < 3) = true := decide_eq_true (by omega)
    have d3' : decide (n < 3) = true := decide_eq_true h3
    have hbad : nodeOf s = none := node_no fun h => by have := h.1; rw [← hws.out] at this; omega
    have b0 : w1.cell? ⟨w.heap.size, 0, none⟩ = some (.string ByteArray.empty) := blk_cell hr1 0
    have b1 : w1.cell? ⟨w.heap.size, 1, none⟩ = some (.int .i64 0) := blk_cell hr1 1
    have b2 : w1.cell? ⟨w.heap.size, 2, none⟩ = some (.int .i64 0) := blk_cell hr1 2
    have b3 : w1.cell? ⟨w.heap.size, 3, none⟩ = some (.int .i64 0) := blk_cell hr1 3
    have b4 : w1.cell? ⟨w.heap.size, 4, none⟩ = some (.int .i64 0) := blk_cell hr1 4
    have b5 : w1.cell? ⟨w.heap.size, 5, none⟩ = some (.slice none 0 0) := blk_cell hr1 5
    have fr := blk_free hr1
    have he : ∀ v0 v1 v2 v3 v4 v5, Below w.heap.size w ((((((w1.setCell ⟨w.heap.size, 0, none⟩ v0).setCell ⟨w.heap.size, 1, none⟩ v1).setCell ⟨w.heap.size, 2, none⟩ v2).setCell ⟨w.heap.size, 3, none⟩ v3).setCell ⟨w.heap.size, 4, none⟩ v4).setCell ⟨w.heap.size, 5, none⟩ v5) := fun v0 v1 v2 v3 v4 v5 =>
      ((((((hlow1).setCell (Nat.le_refl _) _).setCell (Nat.le_refl _) _).setCell (Nat.le_refl _) _).setCell (Nat.le_refl _) _).setCell (Nat.le_refl _) _).setCell (Nat.le_refl _) _
    replace hlow1 := Lib.hid hlow1; replace hr1 := Lib.hid hr1; replace hst := Lib.hid hst; replace hsob := Lib.hid hsob; replace hb1 := Lib.hid hb1; replace hlen := Lib.hid hlen; replace hbad := Lib.hid hbad; replace he := Lib.hid he
    go_wp2
    refine bodyPost_ret (v := .tuple #[Nde.zero.val, .int .i64 50]) (by simp [results, Tryz.results32, go_sem, b0, b1, b2, b3, b4, b5, Nde.zero, V4.zero] <;> rfl) rfl ⟨Nde.zero, 50, rfl, ⟨strs_none _, Nat.le_refl _⟩, he.out _ _ _ _ _ _, fun b off e => (by cases e), .inl ⟨hbad.out, rfl, rfl⟩⟩
  have d3 : decide ((n : Int) < 3) = false := decide_eq_false (by omega)
  have d3' : decide (n < 3) = false := decide_eq_false h3
  obtain ⟨x0, hx0⟩ := hst.get (i := 0) (by omega)
  obtain ⟨b, off, rfl, hbl, a0⟩ := hst.cell 0 x0 hx0
  obtain ⟨rfl, hbge, hblk⟩ := hsob b off rfl
  rw [Nat.add_zero] at a0
  have n0 : 0 < n := by omega
  have n0' : (0 : Int) < n := by omega
  have hw0 : wrd s 0 = x0 := by unfold wrd; rw [← hws.out]; simp [List.getD, hx0]
  have hxs : x0.size ≤ maxLen := by
    have := hsize'.out x0 (List.mem_of_getElem? hx0)
    have : maxLen = 9223372036854775807 := rfl
    omega
  have hcn := rname_any x0 w1 hxs
  obtain ⟨q0, hq0⟩ : ∃ q0, q0 = isName x0 := ⟨_, rfl⟩
  rw [← hq0] at hcn
  replace hlow1 := Lib.hid hlow1; replace hr1 := Lib.hid hr1; replace hst := Lib.hid hst; replace hsob := Lib.hid hsob; replace hb1 := Lib.hid hb1; replace hlen := Lib.hid hlen; replace hx0 := Lib.hid hx0; replace hblk := Lib.hid hblk; replace hw0 := Lib.hid hw0; replace hcn := Lib.hid hcn; replace hq0 := Lib.hid hq0
  go_wp2_with fail
  refine hcn.out.mono ?_
  rintro e w2 ⟨rfl, hb2⟩
  have hlow2 := hlow1.out.trans (hb2.mono hlow1.out.size)
  have hr2 := blk_below hb2 hr1.out (blk_lt hr1.out)
  cases q0 with
  | false =>
    have hbad : nodeOf s = none := node_no fun h => by have := h.2.1; rw [hw0.out, ← hq0.out] at this; cases this
    have b0 : w2.cell? ⟨w.heap.size, 0, none⟩ = some (.string ByteArray.empty) := blk_cell hr2 0
    have b1 : w2.cell? ⟨w.heap.size, 1, none⟩ = some (.int .i64 0) := blk_cell hr2 1
    have b2 : w2.cell? ⟨w.heap.size, 2, none⟩ = some (.int .i64 0) := blk_cell hr2 2
    have b3 : w2.cell? ⟨w.heap.size, 3, none⟩ = some (.int .i64 0) := blk_cell hr2 3
    have b4 : w2.cell? ⟨w.heap.size, 4, none⟩ = some (.int .i64 0) := blk_cell hr2 4
    have b5 : w2.cell? ⟨w.heap.size, 5, none⟩ = some (.slice none 0 0) := blk_cell hr2 5
    have fr := blk_free hr2
    have he : ∀ v0 v1 v2 v3 v4 v5, Below w.heap.size w ((((((w2.setCell ⟨w.heap.size, 0, none⟩ v0).setCell ⟨w.heap.size, 1, none⟩ v1).setCell ⟨w.heap.size, 2, none⟩ v2).setCell ⟨w.heap.size, 3, none⟩ v3).setCell ⟨w.heap.size, 4, none⟩ v4).setCell ⟨w.heap.size, 5, none⟩ v5) := fun v0 v1 v2 v3 v4 v5 =>
      ((((((hlow2).setCell (Nat.le_refl _) _).setCell (Nat.le_refl _) _).setCell (Nat.le_refl _) _).setCell (Nat.le_refl _) _).setCell (Nat.le_refl _) _).setCell (Nat.le_refl _) _
    replace hlow2 := Lib.hid hlow2; replace hr2 := Lib.hid hr2; replace hb2 := Lib.hid hb2; replace hbad := Lib.hid hbad; replace he := Lib.hid he
    go_wp2
    refine bodyPost_ret (v := .tuple #[Nde.zero.val, .int .i64 50]) (by simp [results, Tryz.results32, go_sem, b0, b1, b2, b3, b4, b5, Nde.zero, V4.zero] <;> rfl) rfl ⟨Nde.zero, 50, rfl, ⟨strs_none _, Nat.le_refl _⟩, he.out _ _ _ _ _ _, fun b off e => (by cases e), .inl ⟨hbad.out, rfl, rfl⟩⟩
  | true =>
  obtain ⟨x1, hx1⟩ := hst.out.get (i := 1) (by omega)
  obtain ⟨b', off', e', _, a1⟩ := hst.out.cell 1 x1 hx1
  cases e'
  have c1 := (below_cell hb2 hbl).trans a1
  have n1 : 1 < n := by omega
  have n1' : (1 : Int) < n := by omega
  have hw1 : wrd s 1 = x1 := by unfold wrd; rw [← hws.out]; simp [List.getD, hx1]
  have hx1s := hsize'.out x1 (List.mem_of_getElem? hx1)
  have hcv := rvread_any x1 w2 (by omega)
  have hst2 := hst.out.low hb2
  have hbl2 : b < w2.heap.size := Nat.lt_of_lt_of_le hbl hb2.size
  replace hlow2 := Lib.hid hlow2; replace hr2 := Lib.hid hr2; replace hb2 := Lib.hid hb2; replace hx1 := Lib.hid hx1; replace hw1 := Lib.hid hw1; replace hcv := Lib.hid hcv; replace hst2 := Lib.hid hst2
  clear a1
  rw [Nat.zero_add] at c1
  go_wp2_with fail
  refine hcv.out.mono ?_
  rintro e w3 ⟨rfl, hb3⟩
  obtain ⟨u, hu⟩ : ∃ u : V4, u = (vecOf x1).1 := ⟨_, rfl⟩
  obtain ⟨r, hr⟩ : ∃ r : Int, r = (vecOf x1).2 := ⟨_, rfl⟩
  rw [← hu, ← hr]
  obtain ⟨cb, hcb⟩ := hblk.out
  have hst3 := hst2.out.low hb3
  have hlow3 := hlow2.out.trans (hb3.mono hlow2.out.size)
  obtain ⟨vb, hvb⟩ : ∃ vb, vb = w3.heap.size := ⟨_, rfl⟩
  have hcb3 := blk_below hb3 (blk_below hb2.out hcb (blk_lt hcb)) (Nat.lt_of_lt_of_le (blk_lt hcb) hb2.out.size)
  have hR0 : RnW w vb b ws u (w3.alloc (.cells u.cells 23 (0, 0))) := ⟨hlow3.alloc hlow3.size _, blk_old _ (blk_below hb3 hr2.out (blk_lt hr2.out)), blk_at _ _ hvb, by rw [← hst3.len] at hst3; exact hst3.low ((Below.refl _ _).alloc (Nat.le_refl _) _), cb, blk_old _ hcb3⟩
  have hbge' : w.heap.size < b := by have := blk_lt hr0.out; omega
  have hvbb : vb ≠ w.heap.size := by have := blk_lt hr2.out; have := hb3.size; omega
  have hsl : ∀ w, (Instr.slice 71 (.slice (some ⟨b, 0, none⟩) n c) (some (.int .i64 2)) none none).run Tryz.prog w = .ok (.slice (some ⟨b, 2, none⟩) (n - 2) (c - 2)) w := by
    obtain ⟨ta, h1, h2⟩ := slice_from Tryz.underlying71 hi9 b n c 2 2 rfl (by omega)
    have h3 := h2 (by omega)
    rw [hz91, Nat.mul_one] at h3
    subst h3
    exact h1
  have hsl' := Lib.hid hsl
  clear hsl c1 a0
  replace hb3 := Lib.hid hb3; replace hu := Lib.hid hu; replace hr := Lib.hid hr; replace hcb := Lib.hid hcb; replace hst3 := Lib.hid hst3; replace hlow3 := Lib.hid hlow3; replace hcb3 := Lib.hid hcb3; replace hR0 := Lib.hid hR0
  have hvb' := Lib.hid hvb
  rw [hvb'.out] at hR0
  go_wp2
  rw [← hvb'.out] at hR0 ⊢
  clear hvb
  go_loopw [6, 7, 8] (fun ev i _ wr => ∃ (k : Nat) (E : Int), ev = .int .i64 E ∧ i = .int .i64 k ∧ 2 ≤ k ∧ k ≤ n ∧ Hid (E = 0 ↔ (r = 0 ∧ ∀ j x, 2 ≤ j → j < k → ws[j]? = some x → isName x = true)) ∧ Hid (RnW w vb b ws u wr)) (fun _ i _ _ => n - (intOf i).toNat)
  case atStart => exact ⟨2, r, rfl, rfl, by omega, by omega, ⟨fun h => ⟨h, fun j x h1 h2 => by omega⟩, fun h => h.1⟩, hR0.out⟩
  case round =>
    obtain ⟨k, E, rfl, rfl, hk2, hk, hE, hM⟩ := hrel
    by_cases hc : k < n
    · have hc1 : (k : Int) < n := by omega
      have hk0 : (0 : Int) ≤ (k : Int) := by omega
      have hln := hlen.out
      obtain ⟨y, hy⟩ := hM.out.strs.get (i := k) (by omega)
      obtain ⟨b', off', e', hlt, a0⟩ := hM.out.strs.cell k y hy
      cases e'
      rw [Nat.zero_add] at a0
      have hys : y.size ≤ maxLen := by
        have := hsize'.out y (List.mem_of_getElem? hy)
        have : maxLen = 9223372036854775807 := rfl
        omega
      have hcn := rname_any y wr hys
      obtain ⟨q, hq⟩ : ∃ q, q = isName y := ⟨_, rfl⟩
      rw [← hq] at hcn
      replace hcn := Lib.hid hcn; replace hq := Lib.hid hq; replace hy := Lib.hid hy; replace hln := Lib.hid hln
      go_wp2_with fail
      refine hcn.out.mono ?_
      rintro e wq ⟨rfl, hbq⟩
      have hMq := hM.out.below hbq
      cases q with
      | true =>
        have hE2 : E = 0 ↔ (r = 0 ∧ ∀ j x, 2 ≤ j → j < k + 1 → ws[j]? = some x → isName x = true) := by
          rw [hE.out]
          refine ⟨fun h => ⟨h.1, fun j x h1 h2 h3 => ?_⟩, fun h => ⟨h.1, fun j x h1 h2 h3 => h.2 j x h1 (by omega) h3⟩⟩
          by_cases cc : j = k
          · subst cc; rw [hy.out] at h3; cases h3; exact hq.out.symm
          · exact h.2 j x h1 (by omega) h3
        replace hMq := Lib.hid hMq; replace hE2 := Lib.hid hE2; replace hbq := Lib.hid hbq
        go_wp2
        go_roundw
        case rel => exact ⟨k + 1, E, rfl, by go_num, by omega, by omega, hE2.out, hMq.out⟩
        case measure => simp [intOf]; omega
      | false =>
        have hE2 : (50 : Int) = 0 ↔ (r = 0 ∧ ∀ j x, 2 ≤ j → j < k + 1 → ws[j]? = some x → isName x = true) := by
          refine ⟨fun h => absurd h (by decide), fun h => ?_⟩
          have := h.2 k y hk2 (by omega) hy.out
          rw [← hq.out] at this
          cases this
        replace hMq := Lib.hid hMq; replace hE2 := Lib.hid hE2; replace hbq := Lib.hid hbq
        go_wp2
        go_roundw
        case rel => exact ⟨k + 1, 50, rfl, by go_num, by omega, by omega, hE2.out, hMq.out⟩
        case measure => simp [intOf]; omega
    · have hc1 : ¬ (k : Int) < n := by omega
      have hkn : k = n := by omega
      have hln := hlen.out
      have hok : E = 0 ↔ nodeOk s := by
        rw [hE.out]
        unfold nodeOk
        rw [← hws.out, hw0.out, hw1.out, ← hr.out]
        refine ⟨fun h => ⟨by omega, hq0.out.symm, fun p hp => ?_, h.1⟩, fun h => ⟨h.2.2.2, fun j x h1 h2 h3 => h.2.2.1 x ?_⟩⟩
        · obtain ⟨j, hj, e⟩ := List.getElem_of_mem hp
          rw [List.length_drop] at hj
          rw [List.getElem_drop] at e
          exact h.2 (2 + j) p (by omega) (by omega) (by rw [List.getElem?_eq_getElem (by omega), e])
        · have h4 : (ws.drop 2)[j - 2]? = some x := by rw [List.getElem?_drop, show 2 + (j - 2) = j by omega]; exact h3
          exact List.mem_of_getElem? h4
      have r0 := hM.out.r0
      have b0 : wr.cell? ⟨w.heap.size, 0, none⟩ = some (.string ByteArray.empty) := blk_cell r0 0
      have b1 : wr.cell? ⟨w.heap.size, 1, none⟩ = some (.int .i64 0) := blk_cell r0 1
      have b2 : wr.cell? ⟨w.heap.size, 2, none⟩ = some (.int .i64 0) := blk_cell r0 2
      have b3 : wr.cell? ⟨w.heap.size, 3, none⟩ = some (.int .i64 0) := blk_cell r0 3
      have b4 : wr.cell? ⟨w.heap.size, 4, none⟩ = some (.int .i64 0) := blk_cell r0 4
      have b5 : wr.cell? ⟨w.heap.size, 5, none⟩ = some (.slice none 0 0) := blk_cell r0 5
      have fr := blk_free r0
      by_cases hE0 : E = 0
      · have dE : (E != 0) = false := by simp [hE0]
        have hyes := hok.1 hE0
        have hz := nodeOf_yes hyes
        obtain ⟨b', off', e', hlt, a0⟩ := hM.out.strs.cell 0 x0 hx0.out
        cases e'
        rw [Nat.add_zero] at a0
        have r1 := hM.out.r1
        have q0' : wr.cell? ⟨vb, 0, none⟩ = some (.int .i64 u.a) := blk_cell r1 0
        have q1' : wr.cell? ⟨vb, 1, none⟩ = some (.int .i64 u.b) := blk_cell r1 1
        have q2' : wr.cell? ⟨vb, 2, none⟩ = some (.int .i64 u.c) := blk_cell r1 2
        have q3' : wr.cell? ⟨vb, 3, none⟩ = some (.int .i64 u.d) := blk_cell r1 3
        have hsl := hsl'.out
        obtain ⟨cb2, hcb2⟩ := hM.out.blk
        have hrow : ∀ v0 v1 v2 v3 v4 v5, ((((((wr.setCell ⟨w.heap.size, 0, none⟩ v0).setCell ⟨w.heap.size, 1, none⟩ v1).setCell ⟨w.heap.size, 2, none⟩ v2).setCell ⟨w.heap.size, 3, none⟩ v3).setCell ⟨w.heap.size, 4, none⟩ v4).setCell ⟨w.heap.size, 5, none⟩ v5).heap[b]? = wr.heap[b]? := fun v0 v1 v2 v3 v4 v5 => by
          have hne : b ≠ w.heap.size := by omega
          rw [heap_set_other hne, heap_set_other hne, heap_set_other hne, heap_set_other hne, heap_set_other hne, heap_set_other hne]
        have hsz9 : ∀ v0 v1 v2 v3 v4 v5, ((((((wr.setCell ⟨w.heap.size, 0, none⟩ v0).setCell ⟨w.heap.size, 1, none⟩ v1).setCell ⟨w.heap.size, 2, none⟩ v2).setCell ⟨w.heap.size, 3, none⟩ v3).setCell ⟨w.heap.size, 4, none⟩ v4).setCell ⟨w.heap.size, 5, none⟩ v5).heap.size = wr.heap.size := fun v0 v1 v2 v3 v4 v5 => by simp [World.setCell]
        have he : ∀ v0 v1 v2 v3 v4 v5, Below w.heap.size w ((((((wr.setCell ⟨w.heap.size, 0, none⟩ v0).setCell ⟨w.heap.size, 1, none⟩ v1).setCell ⟨w.heap.size, 2, none⟩ v2).setCell ⟨w.heap.size, 3, none⟩ v3).setCell ⟨w.heap.size, 4, none⟩ v4).setCell ⟨w.heap.size, 5, none⟩ v5) := fun v0 v1 v2 v3 v4 v5 =>
          ((((((hM.out.low).setCell (Nat.le_refl _) _).setCell (Nat.le_refl _) _).setCell (Nat.le_refl _) _).setCell (Nat.le_refl _) _).setCell (Nat.le_refl _) _).setCell (Nat.le_refl _) _
        have hsub := hM.out.strs.sub 2 (by omega)
        replace hrow := Lib.hid hrow; replace hsz9 := Lib.hid hsz9; replace he := Lib.hid he; replace r1 := Lib.hid r1; replace r0 := Lib.hid r0; replace hcb2 := Lib.hid hcb2; replace hok := Lib.hid hok; replace hyes := Lib.hid hyes; replace hz := Lib.hid hz; replace hE0 := Lib.hid hE0; replace hln := Lib.hid hln; replace hkn := Lib.hid hkn; replace hsub := Lib.hid hsub
        go_upto_region 13 with fail
        go_still_tail 7, (by kernel_rfl)
        change wpList _ _ _ _ _ wr.drew
        go_wp2
        refine bodyPost_ret (v := .tuple #[(⟨x0, u, some ⟨b, 2, none⟩, n - 2, c - 2, ws.drop 2⟩ : Nde).val, .int .i64 0]) (by simp [results, Tryz.results32, go_sem, b0, b1, b2, b3, b4, b5]) rfl ⟨⟨x0, u, some ⟨b, 2, none⟩, n - 2, c - 2, ws.drop 2⟩, 0, rfl, ?_⟩
        have hX := hrow.out (.string x0) (.int .i64 u.a) (.int .i64 u.b) (.int .i64 u.c) (.int .i64 u.d) (.slice (some ⟨b, 2, none⟩) (n - 2) (c - 2))
        have hY := hsz9.out (.string x0) (.int .i64 u.a) (.int .i64 u.b) (.int .i64 u.c) (.int .i64 u.d) (.slice (some ⟨b, 2, none⟩) (n - 2) (c - 2))
        have hZ := he.out (.string x0) (.int .i64 u.a) (.int .i64 u.b) (.int .i64 u.c) (.int .i64 u.d) (.slice (some ⟨b, 2, none⟩) (n - 2) (c - 2))
        generalize (((((wr.setCell ⟨w.heap.size, 0, none⟩ (.string x0)).setCell ⟨w.heap.size, 1, none⟩ (.int .i64 u.a)).setCell ⟨w.heap.size, 2, none⟩ (.int .i64 u.b)).setCell ⟨w.heap.size, 3, none⟩ (.int .i64 u.c)).setCell ⟨w.heap.size, 4, none⟩ (.int .i64 u.d)).setCell ⟨w.heap.size, 5, none⟩ (.slice (some ⟨b, 2, none⟩) (n - 2) (c - 2)) = X at hX hY hZ ⊢
        have hS : StrsAt X (some ⟨b, 2, none⟩) (n - 2) (ws.drop 2) := by
          have h := hsub.out
          rw [Nat.zero_add, hln.out] at h
          exact strs_keep h (by omega) fun b' off' e' _ => by cases e'; exact hX
        refine ⟨⟨⟨hS.len, hS.max, hS.cell⟩, by show n - 2 ≤ c - 2; omega⟩, hZ.drew, fun b' off' e' => ?_, .inr ⟨?_, rfl⟩⟩
        · have e2 : b = b' := by injection e' with e'; injection e' with e'
          subst e2
          exact ⟨by omega, cb2, hX.trans hcb2.out⟩
        · rw [hz.out, hw0.out, hw1.out, ← hu.out, ← hws.out]; rfl
      · have dE : (E != 0) = true := by simp [hE0]
        have hbad : nodeOf s = none := node_no fun h => hE0 (hok.2 h)
        have he : ∀ v0 v1 v2 v3 v4 v5, Below w.heap.size w ((((((wr.setCell ⟨w.heap.size, 0, none⟩ v0).setCell ⟨w.heap.size, 1, none⟩ v1).setCell ⟨w.heap.size, 2, none⟩ v2).setCell ⟨w.heap.size, 3, none⟩ v3).setCell ⟨w.heap.size, 4, none⟩ v4).setCell ⟨w.heap.size, 5, none⟩ v5) := fun v0 v1 v2 v3 v4 v5 =>
          ((((((hM.out.low).setCell (Nat.le_refl _) _).setCell (Nat.le_refl _) _).setCell (Nat.le_refl _) _).setCell (Nat.le_refl _) _).setCell (Nat.le_refl _) _).setCell (Nat.le_refl _) _
        replace r0 := Lib.hid r0; replace hbad := Lib.hid hbad; replace he := Lib.hid he; replace hok := Lib.hid hok; replace hE0 := Lib.hid hE0; replace hln := Lib.hid hln; replace hkn := Lib.hid hkn
        go_wp2
        refine bodyPost_ret (v := .tuple #[Nde.zero.val, .int .i64 50]) (by simp [results, Tryz.results32, go_sem, b0, b1, b2, b3, b4, b5, Nde.zero, V4.zero] <;> rfl) rfl ⟨Nde.zero, 50, rfl, ⟨strs_none _, Nat.le_refl _⟩, he.out _ _ _ _ _ _, fun b off e => (by cases e), .inl ⟨hbad.out, rfl, rfl⟩⟩
end Go.Proofs.YteoihdkaoipocaaGreatDoor

/- corveeref05.Read: the fleet of a text. -/
namespace Go.Proofs.YteoihdkaoipocaaGreatDoor
open Go.RowKit Go.Maps Go.Shelf

theorem said_app (a b : List (List UInt8)) (n : Nat) : said n (a ++ b) = said n a ++ said (n + a.length) b := by
  induction a generalizing n with
  | nil => simp [said]
  | cons p a ih =>
    simp only [List.cons_append, said, List.length_cons]
    rw [ih, show n + 1 + a.length = n + (a.length + 1) by omega]
    split <;> simp
theorem said_step {ls : List (List UInt8)} {k : Nat} {p : List UInt8} (h : ls[k]? = some p) : said 0 (ls.take (k + 1)) = said 0 (ls.take k) ++ (if saysB p = true then [(((k : Int) + 1), ofL p)] else []) := by
  have hk := (List.getElem?_eq_some_iff.1 h).1
  rw [take_step h, said_app, List.length_take, Nat.min_eq_left (by omega), Nat.zero_add]
  simp only [said]
theorem said_cut (ls : List (List UInt8)) (k : Nat) : said 0 ls = said 0 (ls.take k) ++ said (0 + (ls.take k).length) (ls.drop k) := by
  rw [← said_app, List.take_append_drop]
/-- the nodes read of the first k lines -/
def rdK (s : ByteArray) (k : Nat) : List Ndv × Int × Int := readTo [] (said 0 ((cutAll 10 s.data.toList).take k))
theorem rdK_stop {s : ByteArray} {k : Nat} (h : (rdK s k).2.1 ≠ 0) : readTo [] (linesOf s) = rdK s k := by
  unfold linesOf
  rw [said_cut _ k, readTo_stop _ _ _ h]; rfl
theorem rdK_end {s : ByteArray} {k : Nat} (h : (cutAll 10 s.data.toList).length ≤ k) : readTo [] (linesOf s) = rdK s k := by
  unfold linesOf rdK
  rw [List.take_of_length_le h]
theorem rdK_skip {s : ByteArray} {k : Nat} {p : List UInt8} (h : (cutAll 10 s.data.toList)[k]? = some p) (hs : saysB p = false) : rdK s (k + 1) = rdK s k := by
  unfold rdK
  rw [said_step h, if_neg (by rw [hs]; simp), List.append_nil]
theorem rdK_line {s : ByteArray} {k : Nat} {p : List UInt8} (h : (cutAll 10 s.data.toList)[k]? = some p) (hs : saysB p = true) (h0 : (rdK s k).2.1 = 0) : rdK s (k + 1) = readTo (rdK s k).1 [(((k : Int) + 1), ofL p)] := by
  unfold rdK at h0 ⊢
  rw [said_step h, if_pos hs, readTo_app _ _ _ h0]
structure RrW (w : World) (b : Nat) (ls : List ByteArray) (vs : List Ndv) (nv : Value) (xs : List Nde) (W : World) : Prop where
  low : Below w.heap.size w W
  res : W.heap[w.heap.size]? = some (.cells #[.slice none 0 0] 34 (0, 0))
  f : W.heap[w.heap.size + 1]? = some (.cells #[nv] 34 (0, 0))
  row : FlR W (w.heap.size + 2) nv xs
  pls : xs.map Nde.pl = vs
  po : ∀ x, x ∈ xs → ∀ b off, x.po = some ⟨b, off, none⟩ → w.heap.size + 2 ≤ b
  strs : StrsAt W (some ⟨b, 0, none⟩) ls.length ls
  blk : ∃ c, W.heap[b]? = some (.cells c 9 (0, 0))
  bge : w.heap.size + 2 ≤ b
theorem RrW.below {w W W' : World} {b : Nat} {ls : List ByteArray} {vs : List Ndv} {nv : Value} {xs : List Nde} (h : RrW w b ls vs nv xs W) (hb : Below W.heap.size W W') : RrW w b ls vs nv xs W' := by
  obtain ⟨c, hc⟩ := h.blk
  exact ⟨h.low.trans (hb.mono h.low.size), blk_below hb h.res (blk_lt h.res), blk_below hb h.f (blk_lt h.f), h.row.below hb, h.pls, h.po, h.strs.low hb, ⟨c, blk_below hb hc (blk_lt hc)⟩, h.bge⟩
def RreadPost (s : ByteArray) (w : World) (e : Ending) (w' : World) : Prop :=
  ∃ nv xs, e = .returned (.tuple #[.agg #[nv], .int .i64 (readOf s).2.1, .int .i64 (readOf s).2.2]) ∧ Below w.heap.size w w' ∧ FlR w' w.heap.size nv xs ∧ ((readOf s).2.1 = 0 → xs.map Nde.pl = (readOf s).1)
theorem flr_nil (w : World) (B : Nat) : FlR w B (.slice none 0 0) [] := ⟨⟨rfl, .inl ⟨rfl, rfl⟩⟩, fun x h => (by cases h)⟩
theorem flr_set {W : World} {B b o : Nat} {nv v : Value} {xs : List Nde} {c : Array Value} {T : TypeId} {fr : Nat × Nat} (h : FlR W B nv xs) (hb : W.heap[b]? = some (.cells c T fr)) (h48 : T ≠ 73) (h9 : T ≠ 9) : FlR (W.setCell ⟨b, o, none⟩ v) B nv xs := by
  have key : ∀ (k : Nat) (c' : Array Value) (T' : TypeId) (fr' : Nat × Nat), T' ≠ T → W.heap[k]? = some (.cells c' T' fr') → (W.setCell ⟨b, o, none⟩ v).heap[k]? = some (.cells c' T' fr') := fun k c' T' fr' hne hk =>
    blk_set_other (fun e => by rw [e, hb] at hk; injection hk with hk; injection hk with _ hk; exact hne hk.symm) _ hk
  refine ⟨⟨h.row.1, ?_⟩, fun x hx => ?_⟩
  · rcases h.row.2 with h | ⟨g, cap, cur, hv, hgb, hh, hr⟩
    · exact .inl h
    · exact .inr ⟨g, cap, cur, hv, hgb, key _ _ _ _ (fun e => h48 e.symm) hh, hr⟩
  · have hk : ∀ b' off, x.po = some ⟨b', off, none⟩ → ∃ c, W.heap[b']? = some (.cells c 9 (0, 0)) ∧ (W.setCell ⟨b, o, none⟩ v).heap[b']? = some (.cells c 9 (0, 0)) := fun b' off e => by
      obtain ⟨c, hc⟩ := (h.ok x hx).2 b' off e
      exact ⟨c, hc, key _ _ _ _ (fun e => h9 e.symm) hc⟩
    refine ⟨⟨strs_keep (h.ok x hx).1.parts (by simp [World.setCell]) fun b' off e _ => ?_, (h.ok x hx).1.ple⟩, fun b' off e => ?_⟩
    · obtain ⟨c, h1, h2⟩ := hk b' off e
      rw [h1, h2]
    · obtain ⟨c, _, h2⟩ := hk b' off e
      exact ⟨c, h2⟩
theorem flr_mono {w : World} {B B' : Nat} {nv : Value} {xs : List Nde} (h : FlR w B nv xs) (hb : B' ≤ B) : FlR w B' nv xs := ⟨owns_mono h.row hb, h.ok⟩
theorem rread_long (s : ByteArray) (w : World) (hs : 4096 < s.size) : Calls Tryz.prog 8 #[.string s] w (RreadPost s w) := by
  have hr : readOf s = ([], 2, 0) := if_pos hs
  have d1 : decide ((4096 : Int) < s.size) = true := decide_eq_true (by omega)
  have d1' : decide (4096 < s.size) = true := decide_eq_true (by omega)
  replace hr := Lib.hid hr
  go_enter Tryz.func8, Tryz.ntmps8
  go_wp2
  refine bodyPost_ret (v := .tuple #[.agg #[.slice none 0 0], .int .i64 2, .int .i64 0]) (by simp [results, Tryz.results8, go_sem]) rfl ?_
  refine ⟨.slice none 0 0, [], by rw [hr.out], ?_, flr_nil _ _, fun h => by rw [hr.out] at h; cases h⟩
  exact ((Below.refl _ _).alloc (Nat.le_refl _) _).alloc (by simp) _
theorem idxN_ge {ns : List ByteArray} {s : ByteArray} (h : s ∈ ns) (k : Nat) : 0 ≤ idxN ns s k := by
  induction ns generalizing k with
  | nil => cases h
  | cons n ns ih =>
    simp only [idxN]
    split
    · omega
    · next hne =>
      refine ih ?_ _
      rcases List.mem_cons.1 h with h | h
      · exact absurd h.symm hne
      · exact h
theorem rr_put {w W4 w9 : World} {b m : Nat} {ls : List ByteArray} {vs : List Ndv} {nv v1 : Value} {xs : List Nde} {x : Nde} (h : RrW w b ls vs nv xs W4) (hx : x.ok W4) (hp : PartsAt W4 x) (hpo : ∀ b off, x.po = some ⟨b, off, none⟩ → w.heap.size + 2 ≤ b) (hm : m = xs.length)
    (hg : (W4.alloc (.cells x.cells 73 (0, 0))).grownBy w9 nv.ownBlock) (ho : w9.ownsRow (w.heap.size + 2) 73 6 v1 (m + 1) (flatv Nde.cells xs ++ x.cells.toList)) : RrW w b ls (vs ++ [x.pl]) v1 (xs ++ [x]) (w9.setCell ⟨w.heap.size + 1, 0, none⟩ v1) := by
  have hs9 : W4.heap.size + 1 ≤ w9.heap.size := by have := hg.size; rwa [World.size_alloc] at this
  have hown : ∀ k, nv.ownBlock = some k → w.heap.size + 2 ≤ k ∧ ∃ cur, W4.heap[k]? = some (.cells cur 73 (0, 0)) := fun k e => ⟨(h.row.row.lt k e).1, owns_block h.row.row e⟩
  have key9 : ∀ (k : Nat) (c : Array Value) (T : TypeId) (fr : Nat × Nat), T ≠ 73 → W4.heap[k]? = some (.cells c T fr) → w9.heap[k]? = some (.cells c T fr) := fun k c T fr hT hk =>
    (hg.block k (by have := blk_lt hk; rw [World.size_alloc]; omega) (fun e => by
      obtain ⟨_, cur, e2⟩ := hown k e.symm
      rw [hk] at e2
      injection e2 with e2
      injection e2 with _ e2
      exact hT e2)).trans (blk_old _ hk)
  have hf9 := key9 _ _ _ _ (by decide) h.f
  have key : ∀ (k : Nat) (c : Array Value) (T : TypeId) (fr : Nat × Nat), T ≠ 73 → k ≠ w.heap.size + 1 → W4.heap[k]? = some (.cells c T fr) → (w9.setCell ⟨w.heap.size + 1, 0, none⟩ v1).heap[k]? = some (.cells c T fr) := fun k c T fr hT hne hk => blk_set_other hne _ (key9 k c T fr hT hk)
  have hsz : W4.heap.size ≤ (w9.setCell ⟨w.heap.size + 1, 0, none⟩ v1).heap.size := by
    have : (w9.setCell ⟨w.heap.size + 1, 0, none⟩ v1).heap.size = w9.heap.size := by simp [World.setCell]
    omega
  have hpart : ∀ y : Nde, y.ok W4 → PartsAt W4 y → (∀ b off, y.po = some ⟨b, off, none⟩ → w.heap.size + 2 ≤ b) → y.ok (w9.setCell ⟨w.heap.size + 1, 0, none⟩ v1) ∧ PartsAt (w9.setCell ⟨w.heap.size + 1, 0, none⟩ v1) y := fun y hy hyp hyb => by
    have k2 : ∀ b off, y.po = some ⟨b, off, none⟩ → ∃ c, W4.heap[b]? = some (.cells c 9 (0, 0)) ∧ (w9.setCell ⟨w.heap.size + 1, 0, none⟩ v1).heap[b]? = some (.cells c 9 (0, 0)) := fun b off e => by
      obtain ⟨c, hc⟩ := hyp b off e
      have := hyb b off e
      exact ⟨c, hc, key b _ _ _ (by decide) (by omega) hc⟩
    refine ⟨⟨strs_keep hy.parts hsz fun b off e _ => ?_, hy.ple⟩, fun b off e => ?_⟩
    · obtain ⟨c, h1, h2⟩ := k2 b off e
      rw [h1, h2]
    · obtain ⟨c, _, h2⟩ := k2 b off e
      exact ⟨c, h2⟩
  have hlow9 : Below w.heap.size w w9 := (h.low.alloc h.low.size _).grown hg (by have := h.low.size; rw [World.size_alloc]; omega) (fun k e => by have := (hown k e).1; omega)
  obtain ⟨c, hc⟩ := h.blk
  have hbk := key b _ _ _ (by decide) (by have := h.bge; omega) hc
  refine ⟨hlow9.setCell (Nat.le_succ _) _, key _ _ _ _ (by decide) (by omega) h.res, by rw [blk_set hf9]; rfl, ⟨?_, fun y hy => ?_⟩, by rw [List.map_append, h.pls]; rfl, fun y hy => ?_, ?_, ⟨c, hbk⟩, h.bge⟩
  · rw [flatv_append, flatv_one, List.length_append, ← hm]
    exact owns_setT ho hf9 (by decide) 0 v1
  · rcases List.mem_append.1 hy with hh | hh
    · exact hpart y (h.row.ok y hh).1 (h.row.ok y hh).2 (h.po y hh)
    · have : y = x := by simpa using hh
      subst this
      exact hpart y hx hp hpo
  · rcases List.mem_append.1 hy with hh | hh
    · exact h.po y hh
    · have : y = x := by simpa using hh
      subst this
      exact hpo
  · exact strs_keep h.strs hsz fun b' off e _ => by cases e; rw [hbk, hc]
set_option maxRecDepth 100000 in
set_option maxHeartbeats 6400000 in
theorem rread_short (s : ByteArray) (w : World) (hs : ¬ 4096 < s.size) : Calls Tryz.prog 8 #[.string s] w (RreadPost s w) := by
  have hr : readOf s = readTo [] (linesOf s) := if_neg hs
  have d1 : decide ((4096 : Int) < s.size) = false := decide_eq_false (by omega)
  have d1' : decide (4096 < s.size) = false := decide_eq_false (by omega)
  obtain ⟨i48, hi48, hz48, hz481, hz482⟩ := info_parts info48
  obtain ⟨W0, hW0⟩ : ∃ W0, W0 = (w.alloc (.cells #[.slice none 0 0] 34 (0, 0))).alloc (.cells #[.slice none 0 0] 34 (0, 0)) := ⟨_, rfl⟩
  have hb0 : Below w.heap.size w W0 := by rw [hW0]; exact ((Below.refl _ _).alloc (Nat.le_refl _) _).alloc (by simp) _
  have hr0 : W0.heap[w.heap.size]? = some (.cells #[.slice none 0 0] 34 (0, 0)) := by rw [hW0]; exact blk_old _ (blk_new _ _)
  have hr1 : W0.heap[w.heap.size + 1]? = some (.cells #[.slice none 0 0] 34 (0, 0)) := by rw [hW0]; exact blk_at _ _ (by simp)
  have hz0 : W0.heap.size = w.heap.size + 2 := by rw [hW0]; simp
  have hct := rcut_any s 10 W0 (by omega)
  have h10 : (((10 : UInt8).toNat : Nat) : Int) = 10 := rfl
  rw [h10] at hct
  clear h10
  rw [hW0] at hct
  have hW0' := Lib.hid hW0
  clear hW0
  replace hb0 := Lib.hid hb0; replace hr0 := Lib.hid hr0; replace hr1 := Lib.hid hr1; replace hct := Lib.hid hct; replace hr := Lib.hid hr; replace hz0 := Lib.hid hz0
  go_enter Tryz.func8, Tryz.ntmps8
  go_wp2_with fail
  refine hct.out.mono ?_
  rintro e w1 ⟨so, n, c, rfl, hnc, hst, hsob, hb1⟩
  rw [← hW0'.out] at hb1 hsob
  have hlen := hst.len
  have hpos : 1 ≤ n := by rw [← hlen, List.length_map]; exact cutAll_pos _ _
  obtain ⟨y0, hy0⟩ := hst.get (i := 0) (by omega)
  obtain ⟨b, off, rfl, hbl, _⟩ := hst.cell 0 y0 hy0
  obtain ⟨rfl, hbge, hblk⟩ := hsob b off rfl
  have hlow1 : Below w.heap.size w w1 := hb0.out.trans (hb1.mono hb0.out.size)
  have hmx := hst.max
  have hR0 : RrW w b ((cutAll 10 s.data.toList).map ofL) (rdK s 0).1 (.slice none 0 0) [] w1 :=
    ⟨hlow1, blk_below hb1 hr0.out (blk_lt hr0.out), blk_below hb1 hr1.out (blk_lt hr1.out), flr_nil _ _, rfl, fun x h => (by cases h), by rw [hlen]; exact hst, hblk, by have := hz0.out; omega⟩
  replace hst := Lib.hid hst; replace hsob := Lib.hid hsob; replace hb1 := Lib.hid hb1; replace hlen := Lib.hid hlen; replace hlow1 := Lib.hid hlow1; replace hblk := Lib.hid hblk; replace hy0 := Lib.hid hy0; replace hR0 := Lib.hid hR0
  go_wp2
  go_loopw [7, 8, 9] (fun i _ _ wr => ∃ (k : Nat) (nv : Value) (xs : List Nde), i = .int .i64 k ∧ k ≤ n ∧ Hid ((rdK s k).2.1 = 0) ∧ Hid (RrW w b ((cutAll 10 s.data.toList).map ofL) (rdK s k).1 nv xs wr)) (fun i _ _ _ => n - (intOf i).toNat)
  case atStart => exact ⟨0, .slice none 0 0, [], rfl, by omega, rfl, hR0.out⟩
  case round =>
    obtain ⟨k, nv, xs, rfl, hk, hok, hM⟩ := hrel
    by_cases hc : k < n
    · have hc1 : (k : Int) < n := by omega
      have hk0 : (0 : Int) ≤ (k : Int) := by omega
      have hln := hlen.out
      rw [List.length_map] at hln
      obtain ⟨p, hp⟩ : ∃ p, (cutAll 10 s.data.toList)[k]? = some p := ⟨_, List.getElem?_eq_getElem (by omega)⟩
      have hpm : ((cutAll 10 s.data.toList).map ofL)[k]? = some (ofL p) := by rw [List.getElem?_map, hp]; rfl
      obtain ⟨b', off', e', hlt, a0⟩ := hM.out.strs.cell k _ hpm
      cases e'
      rw [Nat.zero_add] at a0
      have hps : p.length ≤ s.size := by have := cutAll_le (List.mem_of_getElem? hp); rw [← toL_len s]; exact this
      replace hln := Lib.hid hln; replace hp := Lib.hid hp; replace hpm := Lib.hid hpm
      by_cases hpe : p = []
      · have hsy : saysB p = false := by rw [hpe]; rfl
        have em : (ofL p).toList.isEmpty = true := by rw [ofL_emp, hpe]; rfl
        replace hsy := Lib.hid hsy; replace hpe := Lib.hid hpe
        have hR2 : RrW w b ((cutAll 10 s.data.toList).map ofL) (rdK s (k + 1)).1 nv xs wr := by rw [rdK_skip hp.out hsy.out]; exact hM.out
        have hok2 : (rdK s (k + 1)).2.1 = 0 := by rw [rdK_skip hp.out hsy.out]; exact hok.out
        replace hR2 := Lib.hid hR2; replace hok2 := Lib.hid hok2
        go_wp2
        go_roundw
        case rel => exact ⟨k + 1, nv, xs, by go_num, by omega, hok2.out, hR2.out⟩
        case measure => simp [intOf]; omega
      obtain ⟨x, hx⟩ : ∃ x, x = chz (ofL p) 0 := ⟨_, rfl⟩
      have hpl : 0 < p.length := List.length_pos_iff.2 hpe
      have em : (ofL p).toList.isEmpty = false := by rw [ofL_emp]; cases p with | nil => exact absurd rfl hpe | cons c a => rfl
      have hi0 : ∀ w, (Instr.index 9 (.string (ofL p)) (.int .i64 0)).run Tryz.prog w = .ok (.int .u8 x) w := fun w => by
        rw [hx]; exact index_at Tryz.underlying9 (ofL p) 0 0 rfl (by rw [ofL_size]; exact hpl) w
      have hsy0 : saysB p = decide (x ≠ 35) := by
        rw [hx]
        cases p with
        | nil => exact absurd rfl hpe
        | cons c a =>
          have hch : chz (ofL (c :: a)) 0 = (c.toNat : Int) := by unfold chz; rw [ofL_toL]; rfl
          rw [hch]
          unfold saysB
          refine decide_eq_decide.2 (not_congr ⟨fun h => by rw [h]; rfl, fun h => UInt8.toNat_inj.1 (by have : (35 : UInt8).toNat = 35 := rfl; omega)⟩)
      have hi0' := Lib.hid hi0
      clear hi0
      replace hpe := Lib.hid hpe; replace hx := Lib.hid hx; replace hpl := Lib.hid hpl
      by_cases h35 : x = 35
      · have hsy : saysB p = false := by rw [hsy0, decide_eq_false (by simp [h35])]
        have d35 : (x == 35) = true := by simp [h35]
        have hi0 := hi0'.out
        replace hsy := Lib.hid hsy; replace h35 := Lib.hid h35; replace hsy0 := Lib.hid hsy0
        have hR2 : RrW w b ((cutAll 10 s.data.toList).map ofL) (rdK s (k + 1)).1 nv xs wr := by rw [rdK_skip hp.out hsy.out]; exact hM.out
        have hok2 : (rdK s (k + 1)).2.1 = 0 := by rw [rdK_skip hp.out hsy.out]; exact hok.out
        replace hR2 := Lib.hid hR2; replace hok2 := Lib.hid hok2
        go_wp2
        go_roundw
        case rel => exact ⟨k + 1, nv, xs, by go_num, by omega, hok2.out, hR2.out⟩
        case measure => simp [intOf]; omega
      have hsy : saysB p = true := by rw [hsy0, decide_eq_true h35]
      have d35 : (x == 35) = false := by simp [h35]
      have hi0 := hi0'.out
      have hline := rdK_line hp.out hsy hok.out
      have hnode := rnode_any (ofL p) wr (by rw [ofL_size]; omega)
      replace hsy := Lib.hid hsy; replace h35 := Lib.hid h35; replace hsy0 := Lib.hid hsy0; replace hline := Lib.hid hline; replace hnode := Lib.hid hnode
      go_wp2_with fail
      refine hnode.out.mono ?_
      rintro e w2 ⟨x5, r, rfl, hxok, hlow, hpo, hcase⟩
      have hM2 := hM.out.below hlow
      clear hi0
      have hgood : FltOk (rdK s k).1 := readTo_good _ _ fltOk_nil
      rcases hcase with ⟨hnone, rfl, rfl⟩ | ⟨hsome, rfl⟩
      · have hl2 : rdK s (k + 1) = ((rdK s k).1, 50, (k : Int) + 1) := by rw [hline.out, readTo_bad hnone]
        have hfin : readOf s = ((rdK s k).1, 50, (k : Int) + 1) := by rw [hr.out, rdK_stop (k := k + 1) (by rw [hl2]; show (50 : Int) ≠ 0; decide), hl2]
        have r0 : w2.cell? ⟨w.heap.size, 0, none⟩ = some (.slice none 0 0) := blk_cell hM2.res 0
        have fr := blk_free hM2.res
        have hlt2 := blk_lt hM2.res
        have hlowE : Below w.heap.size w ((w2.setCell ⟨w.heap.size, 0, none⟩ (.slice none 0 0)).alloc (.cells Nde.zero.cells 73 (0, 0))) := (hM2.low.setCell (Nat.le_refl _) _).alloc (hM2.low.setCell (Nat.le_refl _) _).size _
        have rE : ((w2.setCell ⟨w.heap.size, 0, none⟩ (.slice none 0 0)).alloc (.cells Nde.zero.cells 73 (0, 0))).cell? ⟨w.heap.size, 0, none⟩ = some (.slice none 0 0) := blk_cell (blk_old _ (blk_set hM2.res 0 (.slice none 0 0))) 0
        have rE' := Lib.hid rE
        clear rE
        replace hM2 := Lib.hid hM2; replace hlow := Lib.hid hlow; replace hpo := Lib.hid hpo; replace hxok := Lib.hid hxok; replace hnone := Lib.hid hnone; replace hl2 := Lib.hid hl2; replace hfin := Lib.hid hfin; replace hgood := Lib.hid hgood; replace hlowE := Lib.hid hlowE
        go_wp2
        try rw [Exit.noGoto_ret]
        have rE := rE'.out
        refine bodyPost_ret (v := .tuple #[.agg #[.slice none 0 0], .int .i64 50, .int .i64 ((k : Int) + 1)]) (by simp [results, Tryz.results8, go_sem, rE]) rfl ?_
        refine ⟨.slice none 0 0, [], by rw [hfin.out], hlowE.out, flr_nil _ _, fun h => ?_⟩
        rw [hfin.out] at h
        exact absurd h (by show (50 : Int) ≠ 0; decide)
      · have hxln : xs.length ≤ 16 := by have := hgood.len; rw [← hM2.pls, List.length_map] at this; exact this
        have hnames : xs.map Nde.name = (rdK s k).1.map Ndv.name := by rw [← hM2.pls, List.map_map]; rfl
        have hxsl : xs.length = (rdK s k).1.length := by rw [← hM2.pls, List.length_map]
        obtain ⟨W3, hW3⟩ : ∃ W3, W3 = w2.alloc (.cells x5.cells 73 (0, 0)) := ⟨_, rfl⟩
        have hlow3 : Below w2.heap.size w2 W3 := by rw [hW3]; exact (Below.refl _ _).alloc (Nat.le_refl _) _
        have hM3 := hM2.below hlow3
        have hok3 := hxok.low hlow3
        have hpa3 : PartsAt W3 x5 := fun b off e => by
          obtain ⟨_, c, hc⟩ := hpo b off e
          exact ⟨c, blk_below hlow3 hc (blk_lt hc)⟩
        have hpo2 : ∀ b off, x5.po = some ⟨b, off, none⟩ → w.heap.size + 2 ≤ b := fun b off e => by
          have := (hpo b off e).1
          have := hM.out.low.size
          have := blk_lt hM.out.f
          omega
        have hpn := hok3.parts.len
        have hxb : W3.heap[w2.heap.size]? = some (.cells x5.cells 73 (0, 0)) := by rw [hW3]; exact blk_new _ _
        have hidx := ridx_any W3 (w.heap.size + 2) nv xs x5.name hM3.row (by omega)
        have f1 : W3.cell? ⟨w.heap.size + 1, 0, none⟩ = some nv := blk_cell hM3.f 0
        have z0 : W3.cell? ⟨w2.heap.size, 0, none⟩ = some (.string x5.name) := blk_cell hxb 0
        obtain ⟨E, hE⟩ : ∃ E, E = putE ((rdK s k).1.map Ndv.name) (rdK s k).1.length x5.name x5.parts := ⟨_, rfl⟩
        have hstop : E ≠ 0 → readOf s = ((rdK s k).1, E, (k : Int) + 1) := fun hne => by
          have hl2 : rdK s (k + 1) = ((rdK s k).1, E, (k : Int) + 1) := by
            rw [hline.out, readTo_not hsome (by rw [hE] at hne; exact hne), hE]; rfl
          rw [hr.out, rdK_stop (k := k + 1) (by rw [hl2]; exact hne), hl2]
        obtain ⟨I, hI⟩ : ∃ I, I = idxN (xs.map Nde.name) x5.name 0 := ⟨_, rfl⟩
        rw [← hI] at hidx
        obtain ⟨nm, ⟨ca, cb, cc, cd⟩, po, pn, pc, ps⟩ := x5
        rw [hW3] at hidx f1 z0
        have hW3' := Lib.hid hW3
        clear hW3
        replace hM2 := Lib.hid hM2; replace hlow := Lib.hid hlow; replace hpo := Lib.hid hpo; replace hxok := Lib.hid hxok; replace hgood := Lib.hid hgood; replace hxsl := Lib.hid hxsl; replace hnames := Lib.hid hnames; replace hlow3 := Lib.hid hlow3; replace hM3 := Lib.hid hM3; replace hok3 := Lib.hid hok3; replace hpa3 := Lib.hid hpa3; replace hpo2 := Lib.hid hpo2; replace hxb := Lib.hid hxb; replace hidx := Lib.hid hidx; replace hE := Lib.hid hE; replace hstop := Lib.hid hstop; replace hI := Lib.hid hI; replace hsome := Lib.hid hsome; replace hpn := Lib.hid hpn
        go_wp2_with fail
        refine hidx.out.mono ?_
        rintro e w4 ⟨rfl, hb4⟩
        rw [← hW3'.out] at hb4
        have hM4 := hM3.out.below hb4
        have r0 : w4.cell? ⟨w.heap.size, 0, none⟩ = some (.slice none 0 0) := blk_cell hM4.res 0
        have fr := blk_free hM4.res
        clear f1 z0
        by_cases hmem : nm ∈ xs.map Nde.name
        · have hI0 : 0 ≤ I := by rw [hI.out]; exact idxN_ge hmem 0
          have dI : decide (0 ≤ I) = true := decide_eq_true hI0
          have hE51 : E = 51 := by rw [hE.out]; unfold putE; rw [if_pos (memB_iff.2 (by rw [← hnames.out]; exact hmem))]
          have hfin := hstop.out (by rw [hE51]; decide)
          rw [hE51] at hfin
          have hlowE : Below w.heap.size w (w4.setCell ⟨w.heap.size, 0, none⟩ (.slice none 0 0)) := hM4.low.setCell (Nat.le_refl _) _
          replace hM4 := Lib.hid hM4; replace hb4 := Lib.hid hb4; replace hmem := Lib.hid hmem; replace hE51 := Lib.hid hE51; replace hfin := Lib.hid hfin; replace hlowE := Lib.hid hlowE; replace hI0 := Lib.hid hI0
          go_wp2
          try rw [Exit.noGoto_ret]
          refine bodyPost_ret (v := .tuple #[.agg #[.slice none 0 0], .int .i64 51, .int .i64 ((k : Int) + 1)]) (by simp [results, Tryz.results8, go_sem, r0]) rfl ?_
          refine ⟨.slice none 0 0, [], by rw [hfin.out], hlowE.out, flr_nil _ _, fun h => ?_⟩
          rw [hfin.out] at h
          exact absurd h (by show (51 : Int) ≠ 0; decide)
        have hI1 : I = -1 := by rw [hI.out]; exact idxN_no hmem 0
        have dI : decide ((0 : Int) ≤ -1) = false := by decide
        rw [hI1]
        have hxb4 := blk_below hb4 hxb.out (blk_lt hxb.out)
        have z5 : w4.cell? ⟨w2.heap.size, 5, none⟩ = some (.slice po pn pc) := blk_cell hxb4 5
        have htw := twice_any po pn pc ps w4 (hok3.out.low hb4).parts
        obtain ⟨T, hT⟩ : ∃ T, T = twiceL ps := ⟨_, rfl⟩
        unfold TwicePost at htw
        rw [← hT] at htw
        replace hM4 := Lib.hid hM4; replace hb4 := Lib.hid hb4; replace hmem := Lib.hid hmem; replace hI1 := Lib.hid hI1; replace hxb4 := Lib.hid hxb4; replace htw := Lib.hid htw; replace hT := Lib.hid hT
        go_wp2_with fail
        refine htw.out.mono ?_
        rintro e w5 ⟨rfl, hb5⟩
        have hM5 := hM4.out.below hb5
        have hxb5 := blk_below hb5 hxb4.out (blk_lt hxb4.out)
        clear r0 fr z5
        have r0 : w5.cell? ⟨w.heap.size, 0, none⟩ = some (.slice none 0 0) := blk_cell hM5.res 0
        have f1 : w5.cell? ⟨w.heap.size + 1, 0, none⟩ = some nv := blk_cell hM5.f 0
        have z0 : w5.cell? ⟨w2.heap.size, 0, none⟩ = some (.string nm) := blk_cell hxb5 0
        have z1 : w5.cell? ⟨w2.heap.size, 1, none⟩ = some (.int .i64 ca) := blk_cell hxb5 1
        have z2 : w5.cell? ⟨w2.heap.size, 2, none⟩ = some (.int .i64 cb) := blk_cell hxb5 2
        have z3 : w5.cell? ⟨w2.heap.size, 3, none⟩ = some (.int .i64 cc) := blk_cell hxb5 3
        have z4 : w5.cell? ⟨w2.heap.size, 4, none⟩ = some (.int .i64 cd) := blk_cell hxb5 4
        have z5 : w5.cell? ⟨w2.heap.size, 5, none⟩ = some (.slice po pn pc) := blk_cell hxb5 5
        have fr := blk_free hM5.res
        have ff := blk_free hM5.f
        have hnm : ¬ memB ((rdK s k).1.map Ndv.name) nm = true := fun c => hmem.out (by rw [hnames.out]; exact memB_iff.1 c)
        have hlowE : Below w.heap.size w (w5.setCell ⟨w.heap.size, 0, none⟩ (.slice none 0 0)) := hM5.low.setCell (Nat.le_refl _) _
        cases T with
        | true =>
          have hE51 : E = 51 := by rw [hE.out]; unfold putE; rw [if_neg hnm, if_pos hT.out.symm]
          have hfin := hstop.out (by rw [hE51]; decide)
          rw [hE51] at hfin
          replace hM5 := Lib.hid hM5; replace hb5 := Lib.hid hb5; replace hxb5 := Lib.hid hxb5; replace hE51 := Lib.hid hE51; replace hfin := Lib.hid hfin; replace hlowE := Lib.hid hlowE; replace hnm := Lib.hid hnm
          go_wp2
          try rw [Exit.noGoto_ret]
          refine bodyPost_ret (v := .tuple #[.agg #[.slice none 0 0], .int .i64 51, .int .i64 ((k : Int) + 1)]) (by simp [results, Tryz.results8, go_sem, r0]) rfl ?_
          refine ⟨.slice none 0 0, [], by rw [hfin.out], hlowE.out, flr_nil _ _, fun h => ?_⟩
          rw [hfin.out] at h
          exact absurd h (by show (51 : Int) ≠ 0; decide)
        | false =>
          have hln5 := flr_len hM5.row
          obtain ⟨m, hm⟩ : ∃ m, m = xs.length := ⟨_, rfl⟩
          rw [← hm] at hln5
          by_cases q1 : 16 ≤ m
          · have d5 : decide ((16 : Int) ≤ m) = true := decide_eq_true (by omega)
            have d5' : decide (16 ≤ m) = true := decide_eq_true q1
            have hE2 : E = 2 := by rw [hE.out]; unfold putE; rw [if_neg hnm, if_neg (by rw [← hT.out]; simp), if_pos (.inl (by rw [← hxsl.out, ← hm]; exact q1))]
            have hfin := hstop.out (by rw [hE2]; decide)
            rw [hE2] at hfin
            replace hM5 := Lib.hid hM5; replace hb5 := Lib.hid hb5; replace hxb5 := Lib.hid hxb5; replace hE2 := Lib.hid hE2; replace hfin := Lib.hid hfin; replace hlowE := Lib.hid hlowE; replace hnm := Lib.hid hnm; replace hm := Lib.hid hm
            go_wp2
            try rw [Exit.noGoto_ret]
            refine bodyPost_ret (v := .tuple #[.agg #[.slice none 0 0], .int .i64 2, .int .i64 ((k : Int) + 1)]) (by simp [results, Tryz.results8, go_sem, r0]) rfl ?_
            refine ⟨.slice none 0 0, [], by rw [hfin.out], hlowE.out, flr_nil _ _, fun h => ?_⟩
            rw [hfin.out] at h
            exact absurd h (by show (2 : Int) ≠ 0; decide)
          have d5 : decide ((16 : Int) ≤ m) = false := decide_eq_false (by omega)
          have d5' : decide (16 ≤ m) = false := decide_eq_false q1
          by_cases q2 : 8 < pn
          · have d6 : decide ((8 : Int) < pn) = true := decide_eq_true (by omega)
            have d6' : decide (8 < pn) = true := decide_eq_true q2
            have hE2 : E = 2 := by rw [hE.out]; unfold putE; rw [if_neg hnm, if_neg (by rw [← hT.out]; simp), if_pos (.inr (by have : ps.length = pn := hpn.out; show 8 < ps.length; omega))]
            have hfin := hstop.out (by rw [hE2]; decide)
            rw [hE2] at hfin
            replace hM5 := Lib.hid hM5; replace hb5 := Lib.hid hb5; replace hxb5 := Lib.hid hxb5; replace hE2 := Lib.hid hE2; replace hfin := Lib.hid hfin; replace hlowE := Lib.hid hlowE; replace hnm := Lib.hid hnm; replace hm := Lib.hid hm
            go_wp2
            try rw [Exit.noGoto_ret]
            refine bodyPost_ret (v := .tuple #[.agg #[.slice none 0 0], .int .i64 2, .int .i64 ((k : Int) + 1)]) (by simp [results, Tryz.results8, go_sem, r0]) rfl ?_
            refine ⟨.slice none 0 0, [], by rw [hfin.out], hlowE.out, flr_nil _ _, fun h => ?_⟩
            rw [hfin.out] at h
            exact absurd h (by show (2 : Int) ≠ 0; decide)
          have d6 : decide ((8 : Int) < pn) = false := decide_eq_false (by omega)
          have d6' : decide (8 < pn) = false := decide_eq_false q2
          have hE0 : E = 0 := by rw [hE.out]; unfold putE; rw [if_neg hnm, if_neg (by rw [← hT.out]; simp), if_neg (by have : ps.length = pn := hpn.out; have := hxsl.out; show ¬ (16 ≤ (rdK s k).1.length ∨ 8 < ps.length); omega)]
          have hl2 : rdK s (k + 1) = ((rdK s k).1 ++ [Nde.pl ⟨nm, ⟨ca, cb, cc, cd⟩, po, pn, pc, ps⟩], 0, 0) := by rw [hline.out, readTo_put hsome.out (by rw [hE.out] at hE0; exact hE0)]
          have hxok5 := (hok3.out.low hb4.out).low hb5
          have hpa5 : PartsAt w5 ⟨nm, ⟨ca, cb, cc, cd⟩, po, pn, pc, ps⟩ := fun b off e => by
            obtain ⟨c, hc⟩ := hpa3.out b off e
            have h4 := blk_below hb4.out hc (blk_lt hc)
            exact ⟨c, blk_below hb5 h4 (blk_lt h4)⟩
          have hownA : (w5.alloc (.cells (⟨nm, ⟨ca, cb, cc, cd⟩, po, pn, pc, ps⟩ : Nde).cells 73 (0, 0))).ownsRow (w.heap.size + 2) 73 6 nv m (flatv Nde.cells xs) := by rw [hm]; exact hM5.row.row.alloc (.cells (⟨nm, ⟨ca, cb, cc, cd⟩, po, pn, pc, ps⟩ : Nde).cells 73 (0, 0))
          have hnews : ∀ j u, (⟨nm, ⟨ca, cb, cc, cd⟩, po, pn, pc, ps⟩ : Nde).cells.toList[j]? = some u → (w5.alloc (.cells (⟨nm, ⟨ca, cb, cc, cd⟩, po, pn, pc, ps⟩ : Nde).cells 73 (0, 0))).cell? ((⟨w5.heap.size, 0, none⟩ : Addr).add j) = some u := nde_new w5 _
          have hone := nde_one (⟨nm, ⟨ca, cb, cc, cd⟩, po, pn, pc, ps⟩ : Nde)
          have h63 := maxLen_ge (n := m) (by omega)
          have hby : (m + 1) * 72 ≤ 140737488355328 := by omega
          have hbas : w.heap.size + 2 ≤ (w5.alloc (.cells (⟨nm, ⟨ca, cb, cc, cd⟩, po, pn, pc, ps⟩ : Nde).cells 73 (0, 0))).heap.size := by
            have := blk_lt hM5.f
            rw [World.size_alloc]; omega
          have hok2 : (rdK s (k + 1)).2.1 = 0 := by rw [hl2]
          have hlt5 := blk_lt hM5.f
          have hfree : ∀ w9 : World, (w5.alloc (.cells (⟨nm, ⟨ca, cb, cc, cd⟩, po, pn, pc, ps⟩ : Nde).cells 73 (0, 0))).grownBy w9 nv.ownBlock → w9.heap[w.heap.size + 1]? = some (.cells #[nv] 34 (0, 0)) := fun w9 hg => by
            refine (hg.block _ (by rw [World.size_alloc]; omega) (fun e => ?_)).trans (blk_old _ hM5.f)
            have := (hM5.row.row.lt _ e.symm).1
            omega
          replace hM5 := Lib.hid hM5; replace hb5 := Lib.hid hb5; replace hxb5 := Lib.hid hxb5; replace hE0 := Lib.hid hE0; replace hl2 := Lib.hid hl2; replace hlowE := Lib.hid hlowE; replace hnm := Lib.hid hnm; replace hm := Lib.hid hm; replace hxok5 := Lib.hid hxok5; replace hpa5 := Lib.hid hpa5; replace hownA := Lib.hid hownA; replace hnews := Lib.hid hnews; replace hone := Lib.hid hone; replace h63 := Lib.hid h63; replace hby := Lib.hid hby; replace hbas := Lib.hid hbas; replace hok2 := Lib.hid hok2; replace hfree := Lib.hid hfree
          go_wp2_with (at_builtin; refine wpList_append_own _ rfl _ _ 32 rfl (w.heap.size + 2) 73 i48 _ 6 72 Tryz.underlying32 hi48 hz48 hz481 hz482 rfl six_pos nv m _ rfl hownA.out ⟨w5.heap.size, 0, none⟩ 1 1 (⟨nm, ⟨ca, cb, cc, cd⟩, po, pn, pc, ps⟩ : Nde).cells.toList rfl rfl hnews.out hone.out h63.out hby.out hbas.out ?_; intro v1 w9 hown9 hgrow9 _; obtain ⟨g9, cap9, rfl⟩ := Joins.ownsRow_form hown9 (Nat.succ_pos _); have q9 := hfree.out w9 hgrow9; have f9 := blk_cell q9 0; have z9 := blk_free q9 0; simp at f9; replace q9 := Lib.hid q9; replace hown9 := Lib.hid hown9; replace hgrow9 := Lib.hid hgrow9)
          have hR9 := rr_put hM5.out hxok5.out hpa5.out hpo2.out hm.out hgrow9.out hown9.out
          have hR9' : RrW w b ((cutAll 10 s.data.toList).map ofL) (rdK s (k + 1)).1 (.slice (some ⟨g9, 0, none⟩) (m + 1) cap9) (xs ++ [⟨nm, ⟨ca, cb, cc, cd⟩, po, pn, pc, ps⟩]) (w9.setCell ⟨w.heap.size + 1, 0, none⟩ (.slice (some ⟨g9, 0, none⟩) (m + 1) cap9)) := by rw [hl2.out]; exact hR9
          clear hR9
          replace hR9' := Lib.hid hR9'
          go_roundw
          case rel => exact ⟨k + 1, (.slice (some ⟨g9, 0, none⟩) (m + 1) cap9), xs ++ [(⟨nm, ⟨ca, cb, cc, cd⟩, po, pn, pc, ps⟩ : Nde)], by go_num, by omega, hok2.out, hR9'.out⟩
          case measure => simp [intOf]; omega
    · have hc1 : ¬ (k : Int) < n := by omega
      have hln := hlen.out
      rw [List.length_map] at hln
      have hend : readOf s = rdK s k := by rw [hr.out, rdK_end (k := k) (by omega)]
      have hz : (rdK s k).2.2 = 0 := readTo_zero _ _ hok.out
      have r0 : wr.cell? ⟨w.heap.size, 0, none⟩ = some (.slice none 0 0) := blk_cell hM.out.res 0
      have f1 : wr.cell? ⟨w.heap.size + 1, 0, none⟩ = some nv := blk_cell hM.out.f 0
      have fr := blk_free hM.out.res
      have hlowE : Below w.heap.size w (wr.setCell ⟨w.heap.size, 0, none⟩ nv) := hM.out.low.setCell (Nat.le_refl _) _
      have hrowE : FlR (wr.setCell ⟨w.heap.size, 0, none⟩ nv) w.heap.size nv xs := flr_set (flr_mono hM.out.row (by omega)) hM.out.res (by decide) (by decide)
      replace hln := Lib.hid hln; replace hend := Lib.hid hend; replace hz := Lib.hid hz; replace hlowE := Lib.hid hlowE; replace hrowE := Lib.hid hrowE
      have hfm := Joins.ownsRow_forms hM.out.row.row
      have hpls := hM.out.pls
      replace hpls := Lib.hid hpls; replace hM := Lib.hid hM
      rcases hfm with ⟨rfl, h0⟩ | ⟨g, cap, rfl⟩
      all_goals
        try (replace h0 := Lib.hid h0)
        go_wp2
        refine bodyPost_ret (v := .tuple #[.agg #[_], .int .i64 0, .int .i64 0]) (by simp [results, Tryz.results8, go_sem, r0]; rfl) rfl ?_
        exact ⟨_, xs, by rw [hend.out, hok.out, hz.out], hlowE.out, hrowE.out, fun _ => by rw [hend.out]; exact hpls.out⟩
theorem rread_any (s : ByteArray) (w : World) : Calls Tryz.prog 8 #[.string s] w (RreadPost s w) := by
  by_cases hs : 4096 < s.size
  · exact rread_long s w hs
  · exact rread_short s w hs
end Go.Proofs.YteoihdkaoipocaaGreatDoor

/- corveelaw05.same: a fleet is what the document's is. -/
namespace Go.Proofs.YteoihdkaoipocaaGreatDoor
open Go.RowKit Go.Maps Go.Shelf

/-- the document's fleet that tells these nodes -/
structure Flr (W : World) (nv : Value) (vs : List Ndv) : Prop where
  ex : ∃ B xs, FlR W B nv xs ∧ xs.map Nde.pl = vs
theorem Flr.below {w w' : World} {nv : Value} {vs : List Ndv} (h : Flr w nv vs) (hb : Below w.heap.size w w') : Flr w' nv vs := by
  obtain ⟨B, xs, h1, h2⟩ := h.ex
  exact ⟨B, xs, h1.below hb, h2⟩
structure SmC (w W0 : World) (fb mb base : Nat) (nv : Value) (vs : List Ndv) (wx : World) : Prop where
  cur : Below W0.heap.size W0 wx
  f : Flt wx fb mb base vs
  r : Flr wx nv vs
structure SmG (w W0 : World) (fb mb base : Nat) (nv : Value) (vs : List Ndv) (gv : Value) (wx : World) : Prop where
  gv : gv = .bool false
  ok : SmC w W0 fb mb base nv vs wx
structure SmH (w W0 wr : World) (fb mb base : Nat) (nv : Value) (vs : List Ndv) (gv : Value) (wx : World) : Prop where
  gv : gv = .bool false
  ok : SmC w W0 fb mb base nv vs wx
  low : Below wr.heap.size wr wx
end Go.Proofs.YteoihdkaoipocaaGreatDoor

/- (corveeref05.Fleet).Text. -/
namespace Go.Proofs.YteoihdkaoipocaaGreatDoor
open Go.RowKit Go.Maps Go.Shelf

def tailP (ps : List ByteArray) : List UInt8 := ps.flatMap fun p => 32 :: p.data.toList
structure RxW (w : World) (nv : Value) (W : World) : Prop where
  low : Below w.heap.size w W
  box : W.heap[w.heap.size]? = some (.cells #[nv] 34 (0, 0))
structure RxS (W3 : World) (S : ByteArray) (sv : Value) (wx : World) : Prop where
  sv : sv = .string S
  low : Below W3.heap.size W3 wx
end Go.Proofs.YteoihdkaoipocaaGreatDoor

/- The text of right nodes is read as these nodes: plain. -/
namespace Go.Proofs.YteoihdkaoipocaaGreatDoor
open Go.RowKit

def digC (c : UInt8) : Prop := 48 ≤ c.toNat ∧ c.toNat ≤ 57
theorem dec_chars : ∀ (u : Nat), ∀ c, c ∈ Lib.decDigits u → digC c := by
  intro u
  induction u using Nat.strongRecOn with
  | _ u ih =>
    intro c hc
    have one : ∀ d, d < 10 → digC (UInt8.ofNat (48 + d)) := fun d hd => by
      unfold digC
      rw [UInt8.toNat_ofNat']
      omega
    rw [Lib.decDigits] at hc
    split at hc
    · next h =>
      have : c = UInt8.ofNat (48 + u) := by simpa using hc
      subst this
      exact one u h
    · next h =>
      rcases List.mem_append.1 hc with hc | hc
      · exact ih (u / 10) (by omega) c hc
      · have : c = UInt8.ofNat (48 + u % 10) := by simpa using hc
        subst this
        exact one (u % 10) (by omega)
theorem dec_ne (u : Nat) : Lib.decDigits u ≠ [] := by
  rw [Lib.decDigits]
  split <;> simp
theorem chz_app {a b : List UInt8} {k : Nat} (h : k < a.length) : chz (ofL (a ++ b)) k = chz (ofL a) k := by
  unfold chz
  rw [ofL_toL, ofL_toL, List.getD, List.getD, List.getElem?_append_left h]
theorem chz_last (a : List UInt8) (x : UInt8) : chz (ofL (a ++ [x])) a.length = (x.toNat : Int) := by
  unfold chz
  rw [ofL_toL, List.getD, List.getElem?_append_right (Nat.le_refl _)]
  simp
theorem numTo_app {a b : List UInt8} : ∀ {k : Nat}, k ≤ a.length → numTo (ofL (a ++ b)) k = numTo (ofL a) k
  | 0, _ => rfl
  | k + 1, h => by
    simp only [numTo]
    rw [numTo_app (by omega), chz_app (by omega)]
theorem digTo_all {l : List UInt8} (h : ∀ c, c ∈ l → digC c) : ∀ {k : Nat}, k ≤ l.length → digTo (ofL l) k = true
  | 0, _ => rfl
  | k + 1, hk => by
    simp only [digTo, Bool.and_eq_true]
    refine ⟨digTo_all h (by omega), ?_⟩
    rw [isDig_iff]
    have hm : l.getD k 0 ∈ l := by
      rw [List.getD, List.getElem?_eq_getElem (by omega)]
      exact List.getElem_mem _
    have := h _ hm
    unfold chz
    rw [ofL_toL]
    unfold digC at this
    omega
theorem dec_num : ∀ (u : Nat), numTo (ofL (Lib.decDigits u)) (Lib.decDigits u).length = (u : Int) := by
  intro u
  induction u using Nat.strongRecOn with
  | _ u ih =>
    by_cases h : u < 10
    · rw [Lib.decDigits, dif_pos h]
      have := chz_last [] (UInt8.ofNat (48 + u))
      simp only [List.nil_append, List.length_nil] at this
      simp only [List.length_cons, List.length_nil, numTo, this, UInt8.toNat_ofNat']
      omega
    · rw [Lib.decDigits, dif_neg h, List.length_append]
      simp only [List.length_cons, List.length_nil]
      show 10 * numTo _ (Lib.decDigits (u / 10)).length + (chz _ (Lib.decDigits (u / 10)).length - 48) = _
      rw [numTo_app (Nat.le_refl _), ih (u / 10) (by omega), chz_last, UInt8.toNat_ofNat']
      omega
theorem dec_head : ∀ (u : Nat), 0 < u → (Lib.decDigits u).getD 0 0 ≠ 48 := by
  intro u
  induction u using Nat.strongRecOn with
  | _ u ih =>
    intro hu e
    by_cases h : u < 10
    · rw [Lib.decDigits, dif_pos h] at e
      have := congrArg UInt8.toNat e
      simp [UInt8.toNat_ofNat'] at this
      omega
    · rw [Lib.decDigits, dif_neg h] at e
      refine ih (u / 10) (by omega) (by omega) ?_
      have hp := List.length_pos_iff.2 (dec_ne (u / 10))
      rw [List.getD, List.getElem?_append_left hp] at e
      exact e
theorem itoa_pos {n : Int} (h : 0 ≤ n) : Lib.itoa n = Lib.decDigits n.toNat := if_neg (by omega)
theorem itoa_chars {n : Int} (h : 0 ≤ n) : ∀ c, c ∈ Lib.itoa n → digC c := by rw [itoa_pos h]; exact dec_chars _
/-- a node's line without its end -/
def bodyV (v : Ndv) : List UInt8 := v.name.data.toList ++ [32] ++ txtV v.cap ++ tailP v.parts
end Go.Proofs.YteoihdkaoipocaaGreatDoor

/- Specs, plain: which may be, their words, their text, what a text asks for. Plain theorems: no condition. -/
namespace Go.Proofs.YteoihdkaoipocaaGreatDoor
open Go.RowKit Go.Maps Go.Shelf

/-- a spec as it is told -/
structure Spp where
  user : ByteArray
  part : ByteArray
  nodes : Int
  dem : V4
  wall : Int
  prio : Int
  array : Int
  retries : Int
  held : Bool
  after : List Int
deriving DecidableEq

def Spp.zero : Spp := ⟨ByteArray.empty, ByteArray.empty, 0, V4.zero, 0, 0, 0, 0, false, []⟩
def Spp.one : Spp := ⟨ByteArray.empty, ByteArray.empty, 0, V4.zero, 0, 0, 1, 0, false, []⟩

def memI (l : List Int) (x : Int) : Bool := l.any fun y => decide (y = x)
def okw (n : Int) : Bool := decide (n ≠ 0) && decide (-8 ≤ n) && decide (n ≤ 1099511627776)
def waitTo (l : List Int) : Nat → Bool
  | 0 => true
  | k + 1 => waitTo l k && (okw (l.getD k 0) && !memI (l.take k) (l.getD k 0))
/-- may these be waited for? -/
def waitsL (l : List Int) : Bool := decide (l.length ≤ 8) && waitTo l l.length
def betw (n lo hi : Int) : Bool := decide (lo ≤ n) && decide (n ≤ hi)
def demOk (v : V4) : Bool := v.right && decide (v ≠ V4.zero)
def mayS (s : Spp) : Bool := isName s.user && isName s.part && demOk s.dem && waitsL s.after && betw s.nodes 1 16 && betw s.wall 1 1000 && betw s.prio 0 100 && betw s.array 1 20 && betw s.retries 0 5

theorem waitTo_le {l : List Int} {k n : Nat} (h : waitTo l n = true) (hk : k ≤ n) : waitTo l k = true := by
  induction n with
  | zero => have : k = 0 := by omega
            subst this; rfl
  | succ n ih =>
    by_cases c : k = n + 1
    · subst c; exact h
    · simp only [waitTo, Bool.and_eq_true] at h
      exact ih h.1 (by omega)
theorem waitTo_no {l : List Int} {k : Nat} (hk : k < l.length) (h : (okw (l.getD k 0) && !memI (l.take k) (l.getD k 0)) = false) : waitTo l l.length = false := by
  rw [Bool.eq_false_iff]
  intro c
  have := waitTo_le c (show k + 1 ≤ l.length by omega)
  simp [waitTo] at this
  simp at h
  exact absurd (h this.2.1) (by simp [this.2.2])
theorem memI_iff {l : List Int} {x : Int} : memI l x = true ↔ x ∈ l := by
  unfold memI
  rw [List.any_eq_true]
  constructor
  · rintro ⟨y, hy, e⟩
    rw [← of_decide_eq_true e]; exact hy
  · intro h
    exact ⟨x, h, by simp⟩

def kUser : ByteArray := { data := #[117, 115, 101, 114] }
def kPart : ByteArray := { data := #[112, 97, 114, 116] }
def kNodes : ByteArray := { data := #[110, 111, 100, 101, 115] }
def kDemand : ByteArray := { data := #[100, 101, 109, 97, 110, 100] }
def kWall : ByteArray := { data := #[119, 97, 108, 108] }
def kPrio : ByteArray := { data := #[112, 114, 105, 111] }
def kArray : ByteArray := { data := #[97, 114, 114, 97, 121] }
def kRetries : ByteArray := { data := #[114, 101, 116, 114, 105, 101, 115] }
def kHeld : ByteArray := { data := #[104, 101, 108, 100] }
def kAfter : ByteArray := { data := #[97, 102, 116, 101, 114] }
def keysL : List ByteArray := [kUser, kPart, kNodes, kDemand, kWall, kPrio, kArray, kRetries, kHeld, kAfter]

/-- a word: its key, a sign, its value -/
def kv (k : ByteArray) (v : List UInt8) : List UInt8 := k.data.toList ++ 61 :: v
/-- numbers with commas between -/
def listT (l : List Int) : List UInt8 := Lib.join (l.map Lib.itoa) [44]
def pairsS (s : Spp) : List (ByteArray × List UInt8) :=
  [(kUser, s.user.data.toList), (kPart, s.part.data.toList), (kNodes, Lib.itoa s.nodes), (kDemand, txtV s.dem), (kWall, Lib.itoa s.wall)] ++
  (if s.prio = 0 then [] else [(kPrio, Lib.itoa s.prio)]) ++ (if s.array = 1 then [] else [(kArray, Lib.itoa s.array)]) ++
  (if s.retries = 0 then [] else [(kRetries, Lib.itoa s.retries)]) ++ (if s.held = true then [(kHeld, [49])] else []) ++
  (if s.after = [] then [] else [(kAfter, listT s.after)])
def wordsS (s : Spp) : List (List UInt8) := (pairsS s).map fun p => kv p.1 p.2
/-- a spec's text -/
def textS (s : Spp) : List UInt8 := if mayS s = true then Lib.join (wordsS s) [32] else []

/-- the number of a key's field; none: the number may not be -/
def fieldN (v : ByteArray) (lo hi : Int) : Option Int := if betw (numOf v 13) lo hi = true then some (numOf v 13) else none
/-- one number of a row -/
def oneN (p : List UInt8) : Option Int :=
  if p.head? = some 45 then (if numOf (ofL p.tail) 13 < 0 then none else some (-(numOf (ofL p.tail) 13)))
  else if numOf (ofL p) 13 < 0 then none else some (numOf (ofL p) 13)
def manyN : List (List UInt8) → Option (List Int)
  | [] => some []
  | p :: ps => match oneN p with
    | none => none
    | some n => match manyN ps with
      | none => none
      | some l => some (n :: l)
def rowN (v : ByteArray) : Option (List Int) := match manyN (cutAll 44 v.data.toList) with
  | none => none
  | some l => if waitsL l = true then some l else none
/-- a spec with a field set -/
def setP (k v : ByteArray) (s : Spp) : Option Spp :=
  if k = kUser then (if isName v = true then some { s with user := v } else none)
  else if k = kPart then (if isName v = true then some { s with part := v } else none)
  else if k = kNodes then (fieldN v 1 16).map fun n => { s with nodes := n }
  else if k = kDemand then (if (vecOf v).2 = 0 ∧ (vecOf v).1 ≠ V4.zero then some { s with dem := (vecOf v).1 } else none)
  else if k = kWall then (fieldN v 1 1000).map fun n => { s with wall := n }
  else if k = kPrio then (fieldN v 0 100).map fun n => { s with prio := n }
  else if k = kArray then (fieldN v 1 20).map fun n => { s with array := n }
  else if k = kRetries then (fieldN v 0 5).map fun n => { s with retries := n }
  else if k = kHeld then (if v = { data := #[49] } then some { s with held := true } else none)
  else if k = kAfter then (rowN v).map fun l => { s with after := l }
  else none
/-- a word's key and value -/
def keyVal (w : ByteArray) : Option (ByteArray × ByteArray) := match Lib.cut w.data.toList [61] with
  | (a, r, b) => if b = true then some (ofL a, ofL r) else none
def stepP (met : List ByteArray) (s : Spp) (w : ByteArray) : Option (ByteArray × Spp) := match keyVal w with
  | none => none
  | some (k, v) => if memB met k = true then none else (setP k v s).map fun t => (k, t)
/-- word by word: what there is at the end, or the place of the word that may not be -/
def parseW : List ByteArray → List ByteArray → Spp → (List ByteArray × Spp) ⊕ Nat
  | [], met, s => .inl (met, s)
  | w :: ws, met, s => match stepP met s w with
    | none => .inr (met.length + 1)
    | some (k, t) => parseW ws (met ++ [k]) t
def five (met : List ByteArray) : Bool := memB met kUser && memB met kPart && memB met kNodes && memB met kDemand && memB met kWall
def endP (n : Nat) : (List ByteArray × Spp) ⊕ Nat → Spp × Int × Int
  | .inr k => (Spp.zero, 80, (k : Int))
  | .inl (met, s) => if five met = true then (s, 0, 0) else (Spp.zero, 80, ((n + 1 : Nat) : Int))
/-- what a text asks for -/
def parseOf (t : ByteArray) : Spp × Int × Int := if 4096 < t.size then (Spp.zero, 2, 0) else endP (words t).length (parseW (words t) [] Spp.one)
end Go.Proofs.YteoihdkaoipocaaGreatDoor

/- Specs, plain: what a text asks for may be; a spec's text is read as it, in any order of its words. Plain theorems: no condition. -/
namespace Go.Proofs.YteoihdkaoipocaaGreatDoor
open Go.RowKit Go.Maps Go.Shelf

theorem vecOf_right {v : ByteArray} (h : (vecOf v).2 = 0) : (vecOf v).1.right = true := by
  unfold vecOf at h ⊢
  split at h
  · next c =>
    rw [if_pos c]
    unfold V4.told at h ⊢
    split at h
    · next d => rw [if_pos d]; exact d
    · exact absurd h (by decide)
  · exact absurd h (by decide)
theorem fieldN_some {v : ByteArray} {lo hi n : Int} (h : fieldN v lo hi = some n) : betw n lo hi = true ∧ n = numOf v 13 := by
  unfold fieldN at h
  split at h
  · next c => injection h with h; subst h; exact ⟨c, rfl⟩
  · cases h
/-- what a spec that is half read has -/
structure SInv (met : List ByteArray) (s : Spp) : Prop where
  user : kUser ∈ met → isName s.user = true
  part : kPart ∈ met → isName s.part = true
  nodes : kNodes ∈ met → betw s.nodes 1 16 = true
  dem : kDemand ∈ met → demOk s.dem = true
  wall : kWall ∈ met → betw s.wall 1 1000 = true
  prio : betw s.prio 0 100 = true
  array : betw s.array 1 20 = true
  retries : betw s.retries 0 5 = true
  after : waitsL s.after = true
theorem SInv.one : SInv [] Spp.one := ⟨nofun, nofun, nofun, nofun, nofun, by decide, by decide, by decide, by decide⟩
theorem mem_snoc {met : List ByteArray} {k x : ByteArray} (h : x ∈ met ++ [k]) (hne : k ≠ x) : x ∈ met := by
  rcases List.mem_append.1 h with h | h
  · exact h
  · exact absurd (by simpa using h : x = k).symm hne
theorem cutAll_join {x : UInt8} : ∀ {ws : List (List UInt8)}, ws ≠ [] → (∀ w, w ∈ ws → x ∉ w) → cutAll x (Lib.join ws [x]) = ws
  | [w], _, h => by
    show cutAll x (List.intercalate [x] [w]) = _
    rw [show List.intercalate [x] [w] = w by simp [List.intercalate]]
    exact cutAll_no (h w (by simp))
  | w :: v :: r, _, h => by
    have e : List.intercalate [x] (w :: v :: r) = w ++ x :: List.intercalate [x] (v :: r) := by simp [List.intercalate]
    show cutAll x (List.intercalate [x] (w :: v :: r)) = _
    rw [e, cutAll_hit (h w (by simp))]
    have := cutAll_join (x := x) (ws := v :: r) (by simp) fun u hu => h u (by simp at hu ⊢; exact .inr hu)
    exact congrArg (w :: ·) this
theorem numOf_dec13 {u : Nat} (hu : u ≤ 1099511627776) : numOf (ofL (Lib.decDigits u)) 13 = (u : Int) := by
  have h10 : (10 : Nat) ^ (12 + 1) = 10000000000000 := by decide
  have hl : (Lib.decDigits u).length ≤ 13 := dec_len 12 u (by rw [h10]; omega)
  have hp := List.length_pos_iff.2 (dec_ne u)
  unfold numOf
  rw [ofL_size, if_neg, if_pos (digTo_all (dec_chars u) (Nat.le_refl _)), dec_num]
  rintro (h | h | ⟨h, e⟩)
  · omega
  · omega
  · have h0 : 0 < u := by
      rcases Nat.eq_zero_or_pos u with rfl | h0
      · rw [Lib.decDigits, dif_pos (by omega)] at h; simp at h
      · exact h0
    refine dec_head u h0 ?_
    unfold chz at e
    rw [ofL_toL] at e
    exact UInt8.toNat_inj.1 (by have : (48 : UInt8).toNat = 48 := rfl; omega)
theorem numOf_itoa13 {n : Int} (h0 : 0 ≤ n) (h1 : n ≤ 1099511627776) : numOf (ofL (Lib.itoa n)) 13 = n := by
  rw [itoa_pos h0, numOf_dec13 (by omega)]
  omega
theorem itoa_neg {n : Int} (h : n < 0) : Lib.itoa n = 45 :: Lib.decDigits (-n).toNat := by
  unfold Lib.itoa
  rw [if_pos h, show n.natAbs = (-n).toNat by omega]
theorem betw_iff {n lo hi : Int} : betw n lo hi = true ↔ lo ≤ n ∧ n ≤ hi := by simp [betw]
theorem oneN_itoa {n : Int} (h : okw n = true) : oneN (Lib.itoa n) = some n := by
  simp only [okw, Bool.and_eq_true, decide_eq_true_eq] at h
  obtain ⟨⟨h1, h2⟩, h3⟩ := h
  unfold oneN
  by_cases c : n < 0
  · rw [itoa_neg c, if_pos (show (45 :: Lib.decDigits (-n).toNat).head? = some 45 from rfl), List.tail_cons, numOf_dec13 (by omega), if_neg (by omega)]
    congr 1; omega
  · rw [numOf_itoa13 (by omega) h3, if_neg, if_neg c]
    rw [itoa_pos (by omega)]
    intro e
    have : (45 : UInt8) ∈ Lib.decDigits n.toNat := List.mem_of_mem_head? e
    have := dec_chars _ _ this
    unfold digC at this
    exact absurd this (by decide)
theorem manyN_itoa : ∀ {l : List Int}, (∀ n, n ∈ l → okw n = true) → manyN (l.map Lib.itoa) = some l
  | [], _ => rfl
  | n :: l, h => by
    rw [List.map_cons, manyN, oneN_itoa (h n (by simp)), manyN_itoa fun m hm => h m (by simp [hm])]
theorem waits_all {l : List Int} (h : waitsL l = true) : ∀ n, n ∈ l → okw n = true := fun n hn => by
  simp only [waitsL, Bool.and_eq_true] at h
  obtain ⟨k, hk, e⟩ := List.mem_iff_getElem.1 hn
  have := waitTo_le h.2 (show k + 1 ≤ l.length by omega)
  simp only [waitTo, Bool.and_eq_true] at this
  have h2 := this.2.1
  rw [List.getD, List.getElem?_eq_getElem hk, Option.getD_some, e] at h2
  exact h2
theorem waits_len {l : List Int} (h : waitsL l = true) : l.length ≤ 8 := by
  simp only [waitsL, Bool.and_eq_true, decide_eq_true_eq] at h
  exact h.1
theorem okw_bd {n : Int} (h : okw n = true) : n ≠ 0 ∧ -8 ≤ n ∧ n ≤ 1099511627776 := by
  simp only [okw, Bool.and_eq_true, decide_eq_true_eq] at h
  exact ⟨h.1.1, h.1.2, h.2⟩
theorem itoa_any_chars (n : Int) : ∀ c, c ∈ Lib.itoa n → c = 45 ∨ digC c := by
  intro c hc
  by_cases h : n < 0
  · rw [itoa_neg h] at hc
    rcases List.mem_cons.1 hc with h | h
    · exact .inl h
    · exact .inr (dec_chars _ _ h)
  · exact .inr (itoa_chars (by omega) c hc)
theorem itoa_any_not {n : Int} {x : UInt8} (h : (x.toNat < 48 ∨ 57 < x.toNat) ∧ x ≠ 45) : x ∉ Lib.itoa n := fun hm => by
  rcases itoa_any_chars n x hm with e | e
  · exact h.2 e
  · unfold digC at e; omega
theorem rowN_list {l : List Int} (h : waitsL l = true) (hne : l ≠ []) : rowN (ofL (listT l)) = some l := by
  unfold rowN listT
  rw [ofL_toL, cutAll_join (by simpa using hne) (fun w hw => by
    obtain ⟨n, _, rfl⟩ := List.mem_map.1 hw
    exact itoa_any_not (by decide)), manyN_itoa (waits_all h)]
  show (if waitsL l = true then some l else none) = _
  exact if_pos h
theorem mayS_parts {s : Spp} (h : mayS s = true) : isName s.user = true ∧ isName s.part = true ∧ demOk s.dem = true ∧ waitsL s.after = true ∧ betw s.nodes 1 16 = true ∧ betw s.wall 1 1000 = true ∧ betw s.prio 0 100 = true ∧ betw s.array 1 20 = true ∧ betw s.retries 0 5 = true := by
  simp only [mayS, Bool.and_eq_true] at h
  obtain ⟨⟨⟨⟨⟨⟨⟨⟨a, b⟩, c⟩, d⟩, e⟩, f⟩, g⟩, i⟩, j⟩ := h
  exact ⟨a, b, c, d, e, f, g, i, j⟩
theorem demOk_iff {v : V4} : demOk v = true ↔ v.right = true ∧ v ≠ V4.zero := by simp [demOk]

/-- the fields of some keys taken from another spec -/
def updP (ks : List ByteArray) (s t : Spp) : Spp :=
  ⟨if memB ks kUser = true then s.user else t.user, if memB ks kPart = true then s.part else t.part, if memB ks kNodes = true then s.nodes else t.nodes, if memB ks kDemand = true then s.dem else t.dem, if memB ks kWall = true then s.wall else t.wall,
    if memB ks kPrio = true then s.prio else t.prio, if memB ks kArray = true then s.array else t.array, if memB ks kRetries = true then s.retries else t.retries, if memB ks kHeld = true then s.held else t.held, if memB ks kAfter = true then s.after else t.after⟩
theorem snoc_not {met : List ByteArray} {k x : ByteArray} (h : x ≠ k) : memB (met ++ [k]) x = memB met x := by
  rw [Bool.eq_iff_iff, memB_iff, memB_iff]; simp [h]
def keysE : List (ByteArray × List UInt8) → List ByteArray := List.map Prod.fst
theorem pairs_cases {s : Spp} {p : ByteArray × List UInt8} (h : p ∈ pairsS s) :
    p = (kUser, s.user.data.toList) ∨ p = (kPart, s.part.data.toList) ∨ p = (kNodes, Lib.itoa s.nodes) ∨ p = (kDemand, txtV s.dem) ∨ p = (kWall, Lib.itoa s.wall) ∨ p = (kPrio, Lib.itoa s.prio) ∨ p = (kArray, Lib.itoa s.array) ∨ p = (kRetries, Lib.itoa s.retries) ∨ (s.held = true ∧ p = (kHeld, [49])) ∨ (s.after ≠ [] ∧ p = (kAfter, listT s.after)) := by
  simp only [pairsS, List.mem_append, List.mem_cons, List.not_mem_nil, or_false] at h
  rcases h with ((((h | h) | h) | h) | h) | h
  · rcases h with h | h | h | h | h <;> simp [h]
  · split at h
    · simp at h
    · simp at h; simp [h]
  · split at h
    · simp at h
    · simp at h; simp [h]
  · split at h
    · simp at h
    · simp at h; simp [h]
  · split at h
    · next c => simp at h; simp [h, c]
    · simp at h
  · split at h
    · simp at h
    · next c => simp at h; simp [h, c]
theorem itoa_bd {n : Int} (h0 : -1099511627776 ≤ n) (h1 : n ≤ 1099511627776) : (Lib.itoa n).length ≤ 20 := itoa_len (by omega) (by omega)
theorem kv_len (k : ByteArray) (v : List UInt8) : (kv k v).length = k.size + 1 + v.length := by
  unfold kv
  rw [List.length_append, List.length_cons, toL_len]
  omega
theorem listT_len {l : List Int} (h : waitsL l = true) : (listT l).length ≤ 168 := by
  have h1 := inter_len [44] 20 (l.map Lib.itoa) fun x hx => by
    obtain ⟨n, hn, rfl⟩ := List.mem_map.1 hx
    have := okw_bd (waits_all h n hn)
    exact itoa_bd (by omega) (by omega)
  rw [List.length_map] at h1
  have h2 := waits_len h
  have : l.length * (20 + [(44 : UInt8)].length) ≤ 8 * 21 := Nat.mul_le_mul h2 (Nat.le_refl _)
  exact Nat.le_trans h1 this
theorem pair_len {s : Spp} (hs : mayS s = true) {p : ByteArray × List UInt8} (h : p ∈ pairsS s) : (kv p.1 p.2).length ≤ 180 := by
  obtain ⟨q1, q2, q3, q4, q5, q6, q7, q8, q9⟩ := mayS_parts hs
  have d := demOk_iff.1 q3
  have a1 := isName_le q1
  have a2 := isName_le q2
  have a3 := txtV_len (v64_cap (capOk_right d.1))
  have a4 := listT_len q4
  have b5 := betw_iff.1 q5
  have b6 := betw_iff.1 q6
  have b7 := betw_iff.1 q7
  have b8 := betw_iff.1 q8
  have b9 := betw_iff.1 q9
  have c5 := itoa_bd (n := s.nodes) (by omega) (by omega)
  have c6 := itoa_bd (n := s.wall) (by omega) (by omega)
  have c7 := itoa_bd (n := s.prio) (by omega) (by omega)
  have c8 := itoa_bd (n := s.array) (by omega) (by omega)
  have c9 := itoa_bd (n := s.retries) (by omega) (by omega)
  rw [kv_len]
  rcases pairs_cases h with rfl | rfl | rfl | rfl | rfl | rfl | rfl | rfl | ⟨_, rfl⟩ | ⟨_, rfl⟩
  · show 4 + 1 + s.user.data.toList.length ≤ 180; rw [toL_len]; omega
  · show 4 + 1 + s.part.data.toList.length ≤ 180; rw [toL_len]; omega
  · show 5 + 1 + (Lib.itoa s.nodes).length ≤ 180; omega
  · show 6 + 1 + (txtV s.dem).length ≤ 180; omega
  · show 4 + 1 + (Lib.itoa s.wall).length ≤ 180; omega
  · show 4 + 1 + (Lib.itoa s.prio).length ≤ 180; omega
  · show 5 + 1 + (Lib.itoa s.array).length ≤ 180; omega
  · show 7 + 1 + (Lib.itoa s.retries).length ≤ 180; omega
  · show 4 + 1 + 1 ≤ 180; omega
  · show 5 + 1 + (listT s.after).length ≤ 180; omega
theorem pairs_len (s : Spp) : (pairsS s).length ≤ 10 := by
  unfold pairsS
  simp only [List.length_append, List.length_cons, List.length_nil]
  split <;> split <;> split <;> split <;> split <;> simp
def kvs (L : List (ByteArray × List UInt8)) : List (List UInt8) := L.map fun p => kv p.1 p.2
theorem join_size {s : Spp} (hs : mayS s = true) {L : List (ByteArray × List UInt8)} (h : ∀ p, p ∈ L → p ∈ pairsS s) (hl : L.length ≤ 10) : (Lib.join (kvs L) [32]).length ≤ 1810 := by
  have h1 := inter_len [32] 180 (kvs L) fun x hx => by
    obtain ⟨p, hp, rfl⟩ := List.mem_map.1 hx
    exact pair_len hs (h p hp)
  unfold kvs at h1
  rw [List.length_map] at h1
  have : L.length * (180 + [(32 : UInt8)].length) ≤ 10 * 181 := Nat.mul_le_mul hl (Nat.le_refl _)
  exact Nat.le_trans h1 this
theorem textS_may {s : Spp} (hs : mayS s = true) : textS s = Lib.join (kvs (pairsS s)) [32] := if_pos hs
end Go.Proofs.YteoihdkaoipocaaGreatDoor

/- corveeref03.Right: whether an amount may be. -/
namespace Go.Proofs.YteoihdkaoipocaaGreatDoor
open Go.RowKit

set_option maxRecDepth 100000 in
set_option maxHeartbeats 1600000 in
theorem rright_any (v : V4) (w : World) : Calls Tryz.prog 110 #[v.val] w fun e w' => e = .returned (.bool v.right) ∧ Below w.heap.size w w' := by
  obtain ⟨a, b, c, d⟩ := v
  go_enter Tryz.func110, Tryz.ntmps110
  go_wp2
  all_goals
    go_ret
    refine ⟨congrArg Ending.returned (congrArg Value.bool (?_ : (_ : Bool) = _)), (Below.refl _ _).alloc (Nat.le_refl _) _⟩
    rw [Bool.eq_iff_iff]
    simp [V4.right, okn]
    try omega
end Go.Proofs.YteoihdkaoipocaaGreatDoor

/- Which specs may be: corveeref01.In; corveeref08.within, after, demand, May, Check; spec.waits, spec.Check. -/
namespace Go.Proofs.YteoihdkaoipocaaGreatDoor
open Go.RowKit Go.Maps Go.Shelf

theorem IntsAt.dn {w : World} {so : Option Addr} {n : Nat} {xs : List Int} (h : IntsAt w so n xs) (m : Nat) : IntsAt (w.drewN m) so n xs := ⟨h.len, h.max, h.cell⟩
theorem IntsAt.take {w : World} {b off n : Nat} {xs : List Int} (h : IntsAt w (some ⟨b, off, none⟩) n xs) {k : Nat} (hk : k ≤ n) : IntsAt w (some ⟨b, off, none⟩) k (xs.take k) :=
  ⟨by rw [List.length_take, h.len]; omega, by have := h.max; omega, fun i x hx => by
    obtain ⟨b', off', e, hlt, hc⟩ := h.cell i x (by
      rw [List.getElem?_take] at hx
      split at hx
      · exact hx
      · cases hx)
    exact ⟨b', off', e, hlt, hc⟩⟩

set_option maxRecDepth 100000 in
set_option maxHeartbeats 800000 in
theorem in_any (so : Option Addr) (n c : Nat) (xs : List Int) (x : Int) (w : World) (h : IntsAt w so n xs) : Calls Tryz.prog 111 #[.slice so n c, .int .i64 x] w fun e w' => e = .returned (.bool (memI xs x)) ∧ w' = w := by
  have hlen := h.len
  have hmax := h.max
  replace h := Lib.hid h; replace hlen := Lib.hid hlen
  go_enter Tryz.func111, Tryz.ntmps111
  go_wp2
  go_loopw [5] (fun i wr => ∃ k : Nat, i = .int .i64 k ∧ k ≤ n ∧ Hid (∀ j, j < k → xs[j]? ≠ some x) ∧ wr = w) (fun i _ => n - (intOf i).toNat)
  case atStart => exact ⟨0, rfl, Nat.zero_le _, (fun j h => by omega), rfl⟩
  case round =>
    obtain ⟨k, rfl, hk, hall, rfl⟩ := hrel
    by_cases hc : k < n
    · have hc1 : (k : Int) < n := by omega
      have hk0 : (0 : Int) ≤ (k : Int) := by omega
      obtain ⟨y, hy⟩ := h.out.get hc
      obtain ⟨b, off, rfl, hb, a0⟩ := h.out.cell k y hy
      by_cases q : y = x
      · have d : (y == x) = true := by simp [q]
        have hm : memI xs x = true := memI_iff.2 (by rw [← q]; exact List.mem_of_getElem? hy)
        replace hy := Lib.hid hy; replace q := Lib.hid q; replace hm := Lib.hid hm
        go_wp2
        go_ret
        exact ⟨by rw [hm.out]; rfl, rfl⟩
      · have d : (y == x) = false := by simp [q]
        have hn : ∀ j, j < k + 1 → xs[j]? ≠ some x := fun j hj e => by
          by_cases c : j = k
          · subst c; rw [hy] at e; exact q (Option.some.inj e)
          · exact hall.out j (by omega) e
        replace hy := Lib.hid hy; replace q := Lib.hid q; replace hn := Lib.hid hn
        go_wp2
        go_roundw
        case rel => exact ⟨k + 1, by go_num, by omega, hn.out, trivial⟩
        case measure => simp [intOf]; omega
    · have hc1 : ¬ (k : Int) < n := by omega
      have hm : memI xs x = false := by
        rw [Bool.eq_false_iff]
        intro c
        obtain ⟨j, hj, e⟩ := List.mem_iff_getElem.1 (memI_iff.1 c)
        have hl := hlen.out
        exact hall.out j (by omega) (by rw [List.getElem?_eq_getElem hj, e])
      replace hm := Lib.hid hm
      go_wp2
      go_ret
      exact ⟨by rw [hm.out]; rfl, rfl⟩

theorem within_any (n lo hi : Int) (w : World) : Calls Tryz.prog 81 #[.int .i64 n, .int .i64 lo, .int .i64 hi] w fun e w' => e = .returned (.bool (betw n lo hi)) ∧ w' = w := by
  by_cases a : lo ≤ n
  · have d : decide (lo ≤ n) = true := decide_eq_true a
    by_cases b : n ≤ hi
    · have d2 : decide (n ≤ hi) = true := decide_eq_true b
      have hz : betw n lo hi = true := betw_iff.2 ⟨a, b⟩
      replace a := Lib.hid a; replace b := Lib.hid b; replace hz := Lib.hid hz
      go_enter Tryz.func81, Tryz.ntmps81
      go_wp2
      go_ret
      exact ⟨by rw [hz.out]; rfl, rfl⟩
    · have d2 : decide (n ≤ hi) = false := decide_eq_false b
      have hz : betw n lo hi = false := by rw [Bool.eq_false_iff]; exact fun c => b (betw_iff.1 c).2
      replace a := Lib.hid a; replace b := Lib.hid b; replace hz := Lib.hid hz
      go_enter Tryz.func81, Tryz.ntmps81
      go_wp2
      go_ret
      exact ⟨by rw [hz.out]; rfl, rfl⟩
  · have d : decide (lo ≤ n) = false := decide_eq_false a
    have hz : betw n lo hi = false := by rw [Bool.eq_false_iff]; exact fun c => a (betw_iff.1 c).1
    replace a := Lib.hid a; replace hz := Lib.hid hz
    go_enter Tryz.func81, Tryz.ntmps81
    go_wp2
    go_ret
    exact ⟨by rw [hz.out]; rfl, rfl⟩
theorem between_any (n lo hi : Int) (w : World) : Calls Tryz.prog 71 #[.int .i64 n, .int .i64 lo, .int .i64 hi] w fun e w' => e = .returned (.bool (betw n lo hi)) ∧ w' = w := by
  by_cases a : lo ≤ n
  · have d : decide (lo ≤ n) = true := decide_eq_true a
    by_cases b : n ≤ hi
    · have d2 : decide (n ≤ hi) = true := decide_eq_true b
      have hz : betw n lo hi = true := betw_iff.2 ⟨a, b⟩
      replace a := Lib.hid a; replace b := Lib.hid b; replace hz := Lib.hid hz
      go_enter Tryz.func71, Tryz.ntmps71
      go_wp2
      go_ret
      exact ⟨by rw [hz.out]; rfl, rfl⟩
    · have d2 : decide (n ≤ hi) = false := decide_eq_false b
      have hz : betw n lo hi = false := by rw [Bool.eq_false_iff]; exact fun c => b (betw_iff.1 c).2
      replace a := Lib.hid a; replace b := Lib.hid b; replace hz := Lib.hid hz
      go_enter Tryz.func71, Tryz.ntmps71
      go_wp2
      go_ret
      exact ⟨by rw [hz.out]; rfl, rfl⟩
  · have d : decide (lo ≤ n) = false := decide_eq_false a
    have hz : betw n lo hi = false := by rw [Bool.eq_false_iff]; exact fun c => a (betw_iff.1 c).1
    replace a := Lib.hid a; replace hz := Lib.hid hz
    go_enter Tryz.func71, Tryz.ntmps71
    go_wp2
    go_ret
    exact ⟨by rw [hz.out]; rfl, rfl⟩

theorem contains_int_call (w : World) (b off n c : Nat) (xs : List Int) (x : Int) (h : IntsAt w (some ⟨b, off, none⟩) n xs) (k : Nat) (hk : k ≤ n) : Calls Tryz.prog 108 #[.slice (some ⟨b, off, none⟩) k c, .int .i64 x] w fun e w' => e = .returned (.bool (memI (xs.take k) x)) ∧ w' = w := by
  have hl := h.len
  have hm := h.max
  refine (Tryz.slices_Contains_int b off k c xs x w (by omega) (by omega) fun j hj => ?_).mono ?_
  · obtain ⟨b', off', e, _, hc⟩ := h.cell j (xs[j]'hj) (by simp [hj])
    cases e
    rw [hc]
    simp [List.getD, hj]
  · rintro e w' ⟨rfl, rfl⟩
    have : (xs.take k).contains x = memI (xs.take k) x := by
      rw [Bool.eq_iff_iff, memI_iff, List.contains_iff_mem]
    rw [this]
    exact ⟨rfl, rfl⟩

theorem waits_long {l : List Int} (h : 8 < l.length) : waitsL l = false := by
  unfold waitsL
  rw [show decide (l.length ≤ 8) = false from decide_eq_false (by omega)]; rfl
theorem waits_no {l : List Int} {k : Nat} (hk : k < l.length) (h : (okw (l.getD k 0) && !memI (l.take k) (l.getD k 0)) = false) : waitsL l = false := by
  unfold waitsL
  rw [waitTo_no hk h, Bool.and_false]
theorem waits_yes {l : List Int} (hl : l.length ≤ 8) (h : waitTo l l.length = true) : waitsL l = true := by
  unfold waitsL
  rw [h, show decide (l.length ≤ 8) = true from decide_eq_true hl]; rfl
theorem okw_no {x : Int} (h : x = 0 ∨ x < -8 ∨ 1099511627776 < x) : okw x = false := by
  rw [Bool.eq_false_iff]
  intro c
  have := okw_bd c
  omega
theorem okw_yes {x : Int} (h0 : x ≠ 0) (h1 : -8 ≤ x) (h2 : x ≤ 1099511627776) : okw x = true := by
  simp only [okw, Bool.and_eq_true, decide_eq_true_eq]
  exact ⟨⟨h0, h1⟩, h2⟩
set_option maxRecDepth 100000 in
set_option maxHeartbeats 1600000 in
theorem waits_any (so : Option Addr) (n c : Nat) (xs : List Int) (w : World) (h : IntsAt w so n xs) (hnc : n ≤ c) : Calls Tryz.prog 73 #[.slice so n c] w fun e w' => e = .returned (.bool (waitsL xs)) ∧ w' = w := by
  obtain ⟨i3, hi3, hz3, hz31, hz32⟩ := info_parts info3
  have hlen := h.len
  have hmax := h.max
  by_cases h8 : 8 < n
  · have d : decide ((8 : Int) < n) = true := decide_eq_true (by omega)
    have hz : waitsL xs = false := waits_long (by rw [hlen]; exact h8)
    replace h := Lib.hid h; replace hlen := Lib.hid hlen; replace hz := Lib.hid hz; replace h8 := Lib.hid h8; replace hi3 := Lib.hid hi3; replace hz3 := Lib.hid hz3; replace hz31 := Lib.hid hz31; replace hz32 := Lib.hid hz32
    go_enter Tryz.func73, Tryz.ntmps73
    go_wp2
    go_ret
    exact ⟨by rw [hz.out]; rfl, rfl⟩
  have d : decide ((8 : Int) < n) = false := decide_eq_false (by omega)
  have d' : decide (8 < n) = false := decide_eq_false h8
  replace h := Lib.hid h; replace hlen := Lib.hid hlen; replace hi3 := Lib.hid hi3; replace hz3 := Lib.hid hz3; replace hz31 := Lib.hid hz31; replace hz32 := Lib.hid hz32
  go_enter Tryz.func73, Tryz.ntmps73
  go_wp2
  clear d d'
  go_loopw [3, 4, 10] (fun _ _ i wr => ∃ k : Nat, i = .int .i64 k ∧ k ≤ n ∧ Hid (waitTo xs k = true) ∧ wr = w) (fun _ _ i _ => n - (intOf i).toNat)
  case atStart => exact ⟨0, rfl, Nat.zero_le _, rfl, rfl⟩
  case round =>
    obtain ⟨k, rfl, hk, hall, rfl⟩ := hrel
    by_cases hc : k < n
    · have hc1 : (k : Int) < n := by omega
      have hk0 : (0 : Int) ≤ (k : Int) := by omega
      obtain ⟨y, hy⟩ := h.out.get hc
      obtain ⟨b, off, rfl, hb, a0⟩ := h.out.cell k y hy
      have hgd : xs.getD k 0 = y := by rw [List.getD, hy]; rfl
      by_cases q0 : y = 0
      · have d : (y == 0) = true := by simp [q0]
        have hno : (okw (xs.getD k 0) && !memI (xs.take k) (xs.getD k 0)) = false := by rw [hgd, okw_no (.inl q0)]; rfl
        replace hy := Lib.hid hy; replace hgd := Lib.hid hgd; replace hno := Lib.hid hno; replace q0 := Lib.hid q0
        have hz : waitsL xs = false := waits_no (k := k) (by rw [hlen.out]; exact hc) hno.out
        replace hz := Lib.hid hz
        go_wp2
        go_ret
        exact ⟨by rw [hz.out]; rfl, rfl⟩
      have d : (y == 0) = false := by simp [q0]
      by_cases q1 : y < -8
      · have d1 : decide (y < -8) = true := decide_eq_true q1
        have hno : (okw (xs.getD k 0) && !memI (xs.take k) (xs.getD k 0)) = false := by rw [hgd, okw_no (.inr (.inl q1))]; rfl
        replace hy := Lib.hid hy; replace hgd := Lib.hid hgd; replace hno := Lib.hid hno; replace q0 := Lib.hid q0; replace q1 := Lib.hid q1
        have hz : waitsL xs = false := waits_no (k := k) (by rw [hlen.out]; exact hc) hno.out
        replace hz := Lib.hid hz
        go_wp2
        go_ret
        exact ⟨by rw [hz.out]; rfl, rfl⟩
      have d1 : decide (y < -8) = false := decide_eq_false q1
      by_cases q2 : 1099511627776 < y
      · have d2 : decide (1099511627776 < y) = true := decide_eq_true q2
        have hno : (okw (xs.getD k 0) && !memI (xs.take k) (xs.getD k 0)) = false := by rw [hgd, okw_no (.inr (.inr q2))]; rfl
        replace hy := Lib.hid hy; replace hgd := Lib.hid hgd; replace hno := Lib.hid hno; replace q0 := Lib.hid q0; replace q1 := Lib.hid q1; replace q2 := Lib.hid q2
        have hz : waitsL xs = false := waits_no (k := k) (by rw [hlen.out]; exact hc) hno.out
        replace hz := Lib.hid hz
        go_wp2
        go_ret
        exact ⟨by rw [hz.out]; rfl, rfl⟩
      have d2 : decide (1099511627776 < y) = false := decide_eq_false q2
      have hsl := fun w => slice_upto_g Tryz.underlying24 hi3.out ⟨b, off, none⟩ n c k k rfl (by omega) w
      have hcc := contains_int_call wr b off n c xs y h.out k (by omega)
      obtain ⟨m, hm⟩ : ∃ m, m = memI (xs.take k) y := ⟨_, rfl⟩
      rw [← hm] at hcc
      have hok := okw_yes q0 (by omega) (by omega)
      replace hy := Lib.hid hy; replace hgd := Lib.hid hgd; replace q0 := Lib.hid q0; replace q1 := Lib.hid q1; replace q2 := Lib.hid q2; replace hcc := Lib.hid hcc; replace hm := Lib.hid hm; replace hok := Lib.hid hok
      go_wp2_with fail
      refine hcc.out.mono ?_
      rintro e w2 ⟨rfl, rfl⟩
      cases m with
      | true =>
        have hno : (okw (xs.getD k 0) && !memI (xs.take k) (xs.getD k 0)) = false := by rw [hgd.out, ← hm.out]; simp
        replace hno := Lib.hid hno
        have hz : waitsL xs = false := waits_no (k := k) (by rw [hlen.out]; exact hc) hno.out
        replace hz := Lib.hid hz
        go_wp2
        go_ret
        exact ⟨by rw [hz.out]; rfl, rfl⟩
      | false =>
        have hy2 : waitTo xs (k + 1) = true := by
          simp only [waitTo, hgd.out, ← hm.out, hok.out, hall.out]; rfl
        replace hy2 := Lib.hid hy2
        go_wp2
        go_roundw
        case rel => exact ⟨k + 1, by go_num, by omega, hy2.out, trivial⟩
        case measure => simp [intOf]; omega
    · have hc1 : ¬ (k : Int) < n := by omega
      have hkn : k = n := by omega
      subst hkn
      have hz : waitsL xs = true := waits_yes (by rw [hlen.out]; omega) (by rw [hlen.out]; exact hall.out)
      replace hz := Lib.hid hz
      go_wp2
      go_ret
      exact ⟨by rw [hz.out]; rfl, rfl⟩
set_option maxRecDepth 100000 in
set_option maxHeartbeats 1600000 in
theorem after_any (so : Option Addr) (n c : Nat) (xs : List Int) (w : World) (h : IntsAt w so n xs) (hnc : n ≤ c) : Calls Tryz.prog 80 #[.slice so n c] w fun e w' => e = .returned (.bool (waitsL xs)) ∧ Below w.heap.size w w' := by
  obtain ⟨i3, hi3, hz3, hz31, hz32⟩ := info_parts info3
  have hlen := h.len
  have hmax := h.max
  by_cases h8 : 8 < n
  · have d : decide ((8 : Int) < n) = true := decide_eq_true (by omega)
    have hz : waitsL xs = false := waits_long (by rw [hlen]; exact h8)
    replace h := Lib.hid h; replace hlen := Lib.hid hlen; replace hz := Lib.hid hz; replace h8 := Lib.hid h8; replace hi3 := Lib.hid hi3; replace hz3 := Lib.hid hz3; replace hz31 := Lib.hid hz31; replace hz32 := Lib.hid hz32
    go_enter Tryz.func80, Tryz.ntmps80
    go_wp2
    go_ret
    exact ⟨by rw [hz.out]; rfl, Below.refl _ _⟩
  have d : decide ((8 : Int) < n) = false := decide_eq_false (by omega)
  have d' : decide (8 < n) = false := decide_eq_false h8
  replace h := Lib.hid h; replace hlen := Lib.hid hlen; replace hi3 := Lib.hid hi3; replace hz3 := Lib.hid hz3; replace hz31 := Lib.hid hz31; replace hz32 := Lib.hid hz32
  go_enter Tryz.func80, Tryz.ntmps80
  go_wp2
  clear d d'
  go_loopw [3] (fun i wr => ∃ k : Nat, i = .int .i64 k ∧ k ≤ n ∧ Hid (waitTo xs k = true) ∧ Hid (Below w.heap.size w wr)) (fun i _ => n - (intOf i).toNat)
  case atStart => exact ⟨0, rfl, Nat.zero_le _, rfl, Below.refl _ _⟩
  case round =>
    obtain ⟨k, rfl, hk, hall, hB⟩ := hrel
    have hh := h.out.low hB.out
    by_cases hc : k < n
    · have hc1 : (k : Int) < n := by omega
      have hk0 : (0 : Int) ≤ (k : Int) := by omega
      obtain ⟨y, hy⟩ := hh.get hc
      obtain ⟨b, off, rfl, hb, a0⟩ := hh.cell k y hy
      have hgd : xs.getD k 0 = y := by rw [List.getD, hy]; rfl
      have hsl := fun w => slice_upto_g Tryz.underlying24 hi3.out ⟨b, off, none⟩ n c k k rfl (by omega) w
      have hcw := fun m => within_any y (-8) 1099511627776 (wr.drewN m)
      have hci := fun m => in_any (some ⟨b, off, none⟩) k c (xs.take k) y (wr.drewN m) ((hh.take (by omega)).dn m)
      obtain ⟨bw, hbw⟩ : ∃ bw, bw = betw y (-8) 1099511627776 := ⟨_, rfl⟩
      rw [← hbw] at hcw
      obtain ⟨m, hm⟩ : ∃ m, m = memI (xs.take k) y := ⟨_, rfl⟩
      rw [← hm] at hci
      replace hh := Lib.hid hh; replace hcw := Lib.hid hcw; replace hci := Lib.hid hci
      by_cases q0 : y = 0
      · have d : (y == 0) = true := by simp [q0]
        have hno : (okw (xs.getD k 0) && !memI (xs.take k) (xs.getD k 0)) = false := by rw [hgd, okw_no (.inl q0)]; rfl
        replace hy := Lib.hid hy; replace hgd := Lib.hid hgd; replace hno := Lib.hid hno; replace q0 := Lib.hid q0; replace hbw := Lib.hid hbw; replace hm := Lib.hid hm
        have hz : waitsL xs = false := waits_no (k := k) (by rw [hlen.out]; exact hc) hno.out
        replace hz := Lib.hid hz
        go_wp2
        go_quiet ((first | (go_at_call 81; (with_reducible exact Calls.quiet_of_same (hcw.out _))) | (go_at_call 111; (with_reducible exact Calls.quiet_of_same (hci.out _)))))
        go_wp2
        go_ret
        exact ⟨by rw [hz.out]; rfl, ⟨hB.out.os, hB.out.tape, hB.out.output, hB.out.size, hB.out.block⟩⟩
      have d : (y == 0) = false := by simp [q0]
      cases bw with
      | false =>
        have hno : (okw (xs.getD k 0) && !memI (xs.take k) (xs.getD k 0)) = false := by
          rw [hgd, okw_no]; rfl
          have : ¬ (-8 ≤ y ∧ y ≤ 1099511627776) := fun c => by rw [betw_iff.2 c] at hbw; cases hbw
          omega
        replace hy := Lib.hid hy; replace hgd := Lib.hid hgd; replace hno := Lib.hid hno; replace q0 := Lib.hid q0; replace hbw := Lib.hid hbw; replace hm := Lib.hid hm
        have hz : waitsL xs = false := waits_no (k := k) (by rw [hlen.out]; exact hc) hno.out
        replace hz := Lib.hid hz
        go_wp2
        go_quiet ((first | (go_at_call 81; (with_reducible exact Calls.quiet_of_same (hcw.out _))) | (go_at_call 111; (with_reducible exact Calls.quiet_of_same (hci.out _)))))
        go_wp2
        go_ret
        exact ⟨by rw [hz.out]; rfl, ⟨hB.out.os, hB.out.tape, hB.out.output, hB.out.size, hB.out.block⟩⟩
      | true =>
        have hok : okw y = true := by have := betw_iff.1 hbw.symm; exact okw_yes q0 this.1 this.2
        cases m with
        | true =>
          have hno : (okw (xs.getD k 0) && !memI (xs.take k) (xs.getD k 0)) = false := by rw [hgd, ← hm]; simp
          replace hy := Lib.hid hy; replace hgd := Lib.hid hgd; replace hno := Lib.hid hno; replace q0 := Lib.hid q0; replace hbw := Lib.hid hbw; replace hm := Lib.hid hm; replace hok := Lib.hid hok
          have hz : waitsL xs = false := waits_no (k := k) (by rw [hlen.out]; exact hc) hno.out
          replace hz := Lib.hid hz
          go_wp2
          go_quiet ((first | (go_at_call 81; (with_reducible exact Calls.quiet_of_same (hcw.out _))) | (go_at_call 111; (with_reducible exact Calls.quiet_of_same (hci.out _)))))
          go_wp2
          go_ret
          exact ⟨by rw [hz.out]; rfl, ⟨hB.out.os, hB.out.tape, hB.out.output, hB.out.size, hB.out.block⟩⟩
        | false =>
          have hy2 : waitTo xs (k + 1) = true := by
            simp only [waitTo, hgd, ← hm, hok, hall.out]; rfl
          replace hy := Lib.hid hy; replace hgd := Lib.hid hgd; replace q0 := Lib.hid q0; replace hbw := Lib.hid hbw; replace hm := Lib.hid hm; replace hok := Lib.hid hok; replace hy2 := Lib.hid hy2
          go_wp2
          go_quiet ((first | (go_at_call 81; (with_reducible exact Calls.quiet_of_same (hcw.out _))) | (go_at_call 111; (with_reducible exact Calls.quiet_of_same (hci.out _)))))
          go_wp2
          go_roundw
          case rel => exact ⟨k + 1, by go_num, by omega, hy2.out, ⟨hB.out.os, hB.out.tape, hB.out.output, hB.out.size, hB.out.block⟩⟩
          case measure => simp [intOf]; omega
    · have hc1 : ¬ (k : Int) < n := by omega
      have hkn : k = n := by omega
      subst hkn
      have hz : waitsL xs = true := waits_yes (by rw [hlen.out]; omega) (by rw [hlen.out]; exact hall.out)
      replace hz := Lib.hid hz; replace hh := Lib.hid hh
      go_wp2
      go_ret
      exact ⟨by rw [hz.out]; rfl, hB.out⟩
end Go.Proofs.YteoihdkaoipocaaGreatDoor

/- A spec in memory; corveeref08.demand, May, Check; spec.Check. -/
namespace Go.Proofs.YteoihdkaoipocaaGreatDoor
open Go.RowKit Go.Maps Go.Shelf

/-- a spec in memory -/
structure Spv where
  pl : Spp
  so : Option Addr
  n : Nat
  c : Nat
abbrev Spv.cells (x : Spv) : Array Value := #[.string x.pl.user, .string x.pl.part, .int .i64 x.pl.nodes, .int .i64 x.pl.dem.a, .int .i64 x.pl.dem.b, .int .i64 x.pl.dem.c, .int .i64 x.pl.dem.d, .int .i64 x.pl.wall, .int .i64 x.pl.prio, .int .i64 x.pl.array, .int .i64 x.pl.retries, .bool x.pl.held, .slice x.so x.n x.c]
abbrev Spv.val (x : Spv) : Value := .agg #[.string x.pl.user, .string x.pl.part, .int .i64 x.pl.nodes, .int .i64 x.pl.dem.a, .int .i64 x.pl.dem.b, .int .i64 x.pl.dem.c, .int .i64 x.pl.dem.d, .int .i64 x.pl.wall, .int .i64 x.pl.prio, .int .i64 x.pl.array, .int .i64 x.pl.retries, .bool x.pl.held, .slice x.so x.n x.c]
structure Spv.ok (w : World) (x : Spv) : Prop where
  after : IntsAt w x.so x.n x.pl.after
  ple : x.n ≤ x.c
  user : x.pl.user.size ≤ maxLen
  part : x.pl.part.size ≤ maxLen
theorem Spv.ok.low {w w' : World} {x : Spv} (h : x.ok w) (hb : Below w.heap.size w w') : x.ok w' := ⟨h.after.low hb, h.ple, h.user, h.part⟩
def Spv.zero : Spv := ⟨Spp.zero, none, 0, 0⟩
theorem ints_none (w : World) : IntsAt w none 0 [] := ⟨rfl, by omega, fun i x h => by simp at h⟩
theorem Spv.zero_ok (w : World) : Spv.zero.ok w := ⟨ints_none w, Nat.le_refl _, Nat.zero_le _, Nat.zero_le _⟩
/-- the error of a spec -/
def errS (s : Spp) : Int := if mayS s = true then 0 else 80

set_option maxRecDepth 100000 in
set_option maxHeartbeats 800000 in
theorem demand_any (v : V4) (w : World) : Calls Tryz.prog 79 #[v.val] w fun e w' => e = .returned (.bool (demOk v)) ∧ Below w.heap.size w w' := by
  obtain ⟨a, b, c, d⟩ := v
  have hcr := rright_any ⟨a, b, c, d⟩
  obtain ⟨r, hr⟩ : ∃ r, r = V4.right ⟨a, b, c, d⟩ := ⟨_, rfl⟩
  rw [← hr] at hcr
  have hE := eq25 ⟨a, b, c, d⟩ ⟨0, 0, 0, 0⟩
  obtain ⟨q, hq⟩ : ∃ q, q = decide ((⟨a, b, c, d⟩ : V4) = ⟨0, 0, 0, 0⟩) := ⟨_, rfl⟩
  rw [← hq] at hE
  have hz : demOk ⟨a, b, c, d⟩ = (r && !q) := by
    unfold demOk
    rw [hr, hq, ← decide_not]; rfl
  replace hcr := Lib.hid hcr; replace hr := Lib.hid hr; replace hq := Lib.hid hq; replace hz := Lib.hid hz
  have hE' := Lib.hid hE
  clear hE
  go_enter Tryz.func79, Tryz.ntmps79
  go_wp2_with fail
  refine (hcr.out _).mono ?_
  rintro e w1 ⟨rfl, hb1⟩
  have hx1 := blk_below hb1 (blk_new w (.cells #[.int .i64 a, .int .i64 b, .int .i64 c, .int .i64 d] 23 (0, 0))) (by simp)
  have hlow : Below w.heap.size w w1 := ((Below.refl _ _).alloc (Nat.le_refl _) _).trans (hb1.mono (by simp))
  have c0 := blk_cell hx1 0
  have c1 := blk_cell hx1 1
  have c2 := blk_cell hx1 2
  have c3 := blk_cell hx1 3
  simp at c0 c1 c2 c3
  replace hx1 := Lib.hid hx1; replace hlow := Lib.hid hlow; replace hb1 := Lib.hid hb1
  cases r with
  | false =>
    go_wp2
    go_ret
    exact ⟨by rw [hz.out]; rfl, hlow.out⟩
  | true =>
    have hE := hE'.out
    cases q with
    | false =>
      go_wp2
      go_ret
      exact ⟨by rw [hz.out]; rfl, hlow.out⟩
    | true =>
      go_wp2
      go_ret
      exact ⟨by rw [hz.out]; rfl, hlow.out⟩

/-- a spec's box, made by a call -/
structure BoxC (w : World) (x : Spv) (wr : World) : Prop where
  low : Below w.heap.size w wr
  box : wr.heap[w.heap.size]? = some (.cells x.cells 26 (0, 0))
theorem BoxC.below {w wr w' : World} {x : Spv} (h : BoxC w x wr) (hb : Below wr.heap.size wr w') : BoxC w x w' :=
  ⟨h.low.trans (hb.mono h.low.size), blk_below hb h.box (blk_lt h.box)⟩
theorem BoxC.new (w : World) (x : Spv) : BoxC w x (w.alloc (.cells x.cells 26 (0, 0))) := ⟨(Below.refl _ _).alloc (Nat.le_refl _) _, blk_new _ _⟩
theorem BoxC.ok {w wr : World} {x : Spv} (h : BoxC w x wr) (hx : x.ok w) : x.ok wr := hx.low h.low
set_option maxRecDepth 100000 in
set_option maxHeartbeats 3200000 in
theorem may_any (x : Spv) (w : World) (hx : x.ok w) : Calls Tryz.prog 39 #[x.val] w fun e w' => e = .returned (.bool (mayS x.pl)) ∧ Below w.heap.size w w' := by
  have hB0 := BoxC.new w x
  obtain ⟨⟨user, part, nodes, ⟨da, db, dc, dd⟩, wall, prio, array, retries, held, after⟩, so, n, cp⟩ := x
  obtain ⟨b1, hb1⟩ : ∃ b, b = isName user := ⟨_, rfl⟩
  obtain ⟨b2, hb2⟩ : ∃ b, b = isName part := ⟨_, rfl⟩
  obtain ⟨b4, hb4⟩ : ∃ b, b = waitsL after := ⟨_, rfl⟩
  obtain ⟨b5, hb5⟩ : ∃ b, b = betw nodes 1 16 := ⟨_, rfl⟩
  obtain ⟨b6, hb6⟩ : ∃ b, b = betw wall 1 1000 := ⟨_, rfl⟩
  obtain ⟨b7, hb7⟩ : ∃ b, b = betw prio 0 100 := ⟨_, rfl⟩
  obtain ⟨b8, hb8⟩ : ∃ b, b = betw array 1 20 := ⟨_, rfl⟩
  obtain ⟨b9, hb9⟩ : ∃ b, b = betw retries 0 5 := ⟨_, rfl⟩
  obtain ⟨b3, hb3⟩ : ∃ b, b = demOk ⟨da, db, dc, dd⟩ := ⟨_, rfl⟩
  have hz : mayS ⟨user, part, nodes, ⟨da, db, dc, dd⟩, wall, prio, array, retries, held, after⟩ = (b1 && b2 && b3 && b4 && b5 && b6 && b7 && b8 && b9) := by
    rw [hb1, hb2, hb3, hb4, hb5, hb6, hb7, hb8, hb9]; rfl
  have k1 : ∀ W, Calls Tryz.prog 69 #[.string user] W fun e w' => e = .returned (.bool b1) ∧ Below W.heap.size W w' := fun W => by rw [hb1]; exact rname_any user W hx.user
  have k2 : ∀ W, Calls Tryz.prog 69 #[.string part] W fun e w' => e = .returned (.bool b2) ∧ Below W.heap.size W w' := fun W => by rw [hb2]; exact rname_any part W hx.part
  have k3 : ∀ W, Calls Tryz.prog 79 #[.agg #[.int .i64 da, .int .i64 db, .int .i64 dc, .int .i64 dd]] W fun e w' => e = .returned (.bool b3) ∧ Below W.heap.size W w' := fun W => by rw [hb3]; exact demand_any ⟨da, db, dc, dd⟩ W
  have k4 : ∀ W, BoxC w ⟨⟨user, part, nodes, ⟨da, db, dc, dd⟩, wall, prio, array, retries, held, after⟩, so, n, cp⟩ W → Calls Tryz.prog 80 #[.slice so n cp] W fun e w' => e = .returned (.bool b4) ∧ Below W.heap.size W w' := fun W hW => by rw [hb4]; exact after_any so n cp after W (hW.ok hx).after hx.ple
  have k5 : ∀ W, Calls Tryz.prog 81 #[.int .i64 nodes, .int .i64 1, .int .i64 16] W fun e w' => e = .returned (.bool b5) ∧ w' = W := fun W => by rw [hb5]; exact within_any _ _ _ W
  have k6 : ∀ W, Calls Tryz.prog 81 #[.int .i64 wall, .int .i64 1, .int .i64 1000] W fun e w' => e = .returned (.bool b6) ∧ w' = W := fun W => by rw [hb6]; exact within_any _ _ _ W
  have k7 : ∀ W, Calls Tryz.prog 81 #[.int .i64 prio, .int .i64 0, .int .i64 100] W fun e w' => e = .returned (.bool b7) ∧ w' = W := fun W => by rw [hb7]; exact within_any _ _ _ W
  have k8 : ∀ W, Calls Tryz.prog 81 #[.int .i64 array, .int .i64 1, .int .i64 20] W fun e w' => e = .returned (.bool b8) ∧ w' = W := fun W => by rw [hb8]; exact within_any _ _ _ W
  have k9 : ∀ W, Calls Tryz.prog 81 #[.int .i64 retries, .int .i64 0, .int .i64 5] W fun e w' => e = .returned (.bool b9) ∧ w' = W := fun W => by rw [hb9]; exact within_any _ _ _ W
  clear hb1 hb2 hb3 hb4 hb5 hb6 hb7 hb8 hb9
  have c0 : (w.alloc (.cells (⟨⟨user, part, nodes, ⟨da, db, dc, dd⟩, wall, prio, array, retries, held, after⟩, so, n, cp⟩ : Spv).cells 26 (0, 0))).cell? ⟨w.heap.size, 0, none⟩ = some (.string user) := blk_cell hB0.box 0
  have c1 : (w.alloc (.cells (⟨⟨user, part, nodes, ⟨da, db, dc, dd⟩, wall, prio, array, retries, held, after⟩, so, n, cp⟩ : Spv).cells 26 (0, 0))).cell? ⟨w.heap.size, 1, none⟩ = some (.string part) := blk_cell hB0.box 1
  have c2 : (w.alloc (.cells (⟨⟨user, part, nodes, ⟨da, db, dc, dd⟩, wall, prio, array, retries, held, after⟩, so, n, cp⟩ : Spv).cells 26 (0, 0))).cell? ⟨w.heap.size, 2, none⟩ = some (.int .i64 nodes) := blk_cell hB0.box 2
  have c3 : (w.alloc (.cells (⟨⟨user, part, nodes, ⟨da, db, dc, dd⟩, wall, prio, array, retries, held, after⟩, so, n, cp⟩ : Spv).cells 26 (0, 0))).cell? ⟨w.heap.size, 3, none⟩ = some (.int .i64 da) := blk_cell hB0.box 3
  have c4 : (w.alloc (.cells (⟨⟨user, part, nodes, ⟨da, db, dc, dd⟩, wall, prio, array, retries, held, after⟩, so, n, cp⟩ : Spv).cells 26 (0, 0))).cell? ⟨w.heap.size, 4, none⟩ = some (.int .i64 db) := blk_cell hB0.box 4
  have c5 : (w.alloc (.cells (⟨⟨user, part, nodes, ⟨da, db, dc, dd⟩, wall, prio, array, retries, held, after⟩, so, n, cp⟩ : Spv).cells 26 (0, 0))).cell? ⟨w.heap.size, 5, none⟩ = some (.int .i64 dc) := blk_cell hB0.box 5
  have c6 : (w.alloc (.cells (⟨⟨user, part, nodes, ⟨da, db, dc, dd⟩, wall, prio, array, retries, held, after⟩, so, n, cp⟩ : Spv).cells 26 (0, 0))).cell? ⟨w.heap.size, 6, none⟩ = some (.int .i64 dd) := blk_cell hB0.box 6
  have c7 : (w.alloc (.cells (⟨⟨user, part, nodes, ⟨da, db, dc, dd⟩, wall, prio, array, retries, held, after⟩, so, n, cp⟩ : Spv).cells 26 (0, 0))).cell? ⟨w.heap.size, 7, none⟩ = some (.int .i64 wall) := blk_cell hB0.box 7
  have c8 : (w.alloc (.cells (⟨⟨user, part, nodes, ⟨da, db, dc, dd⟩, wall, prio, array, retries, held, after⟩, so, n, cp⟩ : Spv).cells 26 (0, 0))).cell? ⟨w.heap.size, 8, none⟩ = some (.int .i64 prio) := blk_cell hB0.box 8
  have c9 : (w.alloc (.cells (⟨⟨user, part, nodes, ⟨da, db, dc, dd⟩, wall, prio, array, retries, held, after⟩, so, n, cp⟩ : Spv).cells 26 (0, 0))).cell? ⟨w.heap.size, 9, none⟩ = some (.int .i64 array) := blk_cell hB0.box 9
  have c10 : (w.alloc (.cells (⟨⟨user, part, nodes, ⟨da, db, dc, dd⟩, wall, prio, array, retries, held, after⟩, so, n, cp⟩ : Spv).cells 26 (0, 0))).cell? ⟨w.heap.size, 10, none⟩ = some (.int .i64 retries) := blk_cell hB0.box 10
  have c11 : (w.alloc (.cells (⟨⟨user, part, nodes, ⟨da, db, dc, dd⟩, wall, prio, array, retries, held, after⟩, so, n, cp⟩ : Spv).cells 26 (0, 0))).cell? ⟨w.heap.size, 11, none⟩ = some (.bool held) := blk_cell hB0.box 11
  have c12 : (w.alloc (.cells (⟨⟨user, part, nodes, ⟨da, db, dc, dd⟩, wall, prio, array, retries, held, after⟩, so, n, cp⟩ : Spv).cells 26 (0, 0))).cell? ⟨w.heap.size, 12, none⟩ = some (.slice so n cp) := blk_cell hB0.box 12
  replace hz := Lib.hid hz; replace k1 := Lib.hid k1; replace k2 := Lib.hid k2; replace k3 := Lib.hid k3; replace k4 := Lib.hid k4; replace k5 := Lib.hid k5; replace k6 := Lib.hid k6; replace k7 := Lib.hid k7; replace k8 := Lib.hid k8; replace k9 := Lib.hid k9; replace hx := Lib.hid hx; replace hB0 := Lib.hid hB0
  go_enter Tryz.func39, Tryz.ntmps39
  go_wp2_with fail
  refine (k1.out _).mono ?_
  rintro e w1 ⟨rfl, hb⟩
  have hB1 := (hB0).out.below hb
  clear c0 c1 c2 c3 c4 c5 c6 c7 c8 c9 c10 c11 c12
  have c0 : w1.cell? ⟨w.heap.size, 0, none⟩ = some (.string user) := blk_cell (hB1).box 0
  have c1 : w1.cell? ⟨w.heap.size, 1, none⟩ = some (.string part) := blk_cell (hB1).box 1
  have c2 : w1.cell? ⟨w.heap.size, 2, none⟩ = some (.int .i64 nodes) := blk_cell (hB1).box 2
  have c3 : w1.cell? ⟨w.heap.size, 3, none⟩ = some (.int .i64 da) := blk_cell (hB1).box 3
  have c4 : w1.cell? ⟨w.heap.size, 4, none⟩ = some (.int .i64 db) := blk_cell (hB1).box 4
  have c5 : w1.cell? ⟨w.heap.size, 5, none⟩ = some (.int .i64 dc) := blk_cell (hB1).box 5
  have c6 : w1.cell? ⟨w.heap.size, 6, none⟩ = some (.int .i64 dd) := blk_cell (hB1).box 6
  have c7 : w1.cell? ⟨w.heap.size, 7, none⟩ = some (.int .i64 wall) := blk_cell (hB1).box 7
  have c8 : w1.cell? ⟨w.heap.size, 8, none⟩ = some (.int .i64 prio) := blk_cell (hB1).box 8
  have c9 : w1.cell? ⟨w.heap.size, 9, none⟩ = some (.int .i64 array) := blk_cell (hB1).box 9
  have c10 : w1.cell? ⟨w.heap.size, 10, none⟩ = some (.int .i64 retries) := blk_cell (hB1).box 10
  have c11 : w1.cell? ⟨w.heap.size, 11, none⟩ = some (.bool held) := blk_cell (hB1).box 11
  have c12 : w1.cell? ⟨w.heap.size, 12, none⟩ = some (.slice so n cp) := blk_cell (hB1).box 12
  replace hB1 := Lib.hid hB1; replace hb := Lib.hid hb
  clear hb
  go_wp2_with fail
  refine (k2.out _).mono ?_
  rintro e w2 ⟨rfl, hb⟩
  have hB2 := (hB1).out.below hb
  clear c0 c1 c2 c3 c4 c5 c6 c7 c8 c9 c10 c11 c12
  have c0 : w2.cell? ⟨w.heap.size, 0, none⟩ = some (.string user) := blk_cell (hB2).box 0
  have c1 : w2.cell? ⟨w.heap.size, 1, none⟩ = some (.string part) := blk_cell (hB2).box 1
  have c2 : w2.cell? ⟨w.heap.size, 2, none⟩ = some (.int .i64 nodes) := blk_cell (hB2).box 2
  have c3 : w2.cell? ⟨w.heap.size, 3, none⟩ = some (.int .i64 da) := blk_cell (hB2).box 3
  have c4 : w2.cell? ⟨w.heap.size, 4, none⟩ = some (.int .i64 db) := blk_cell (hB2).box 4
  have c5 : w2.cell? ⟨w.heap.size, 5, none⟩ = some (.int .i64 dc) := blk_cell (hB2).box 5
  have c6 : w2.cell? ⟨w.heap.size, 6, none⟩ = some (.int .i64 dd) := blk_cell (hB2).box 6
  have c7 : w2.cell? ⟨w.heap.size, 7, none⟩ = some (.int .i64 wall) := blk_cell (hB2).box 7
  have c8 : w2.cell? ⟨w.heap.size, 8, none⟩ = some (.int .i64 prio) := blk_cell (hB2).box 8
  have c9 : w2.cell? ⟨w.heap.size, 9, none⟩ = some (.int .i64 array) := blk_cell (hB2).box 9
  have c10 : w2.cell? ⟨w.heap.size, 10, none⟩ = some (.int .i64 retries) := blk_cell (hB2).box 10
  have c11 : w2.cell? ⟨w.heap.size, 11, none⟩ = some (.bool held) := blk_cell (hB2).box 11
  have c12 : w2.cell? ⟨w.heap.size, 12, none⟩ = some (.slice so n cp) := blk_cell (hB2).box 12
  replace hB2 := Lib.hid hB2; replace hb := Lib.hid hb
  clear hb
  go_wp2_with fail
  refine (k3.out _).mono ?_
  rintro e w3 ⟨rfl, hb⟩
  have hB3 := (hB2).out.below hb
  clear c0 c1 c2 c3 c4 c5 c6 c7 c8 c9 c10 c11 c12
  have c0 : w3.cell? ⟨w.heap.size, 0, none⟩ = some (.string user) := blk_cell (hB3).box 0
  have c1 : w3.cell? ⟨w.heap.size, 1, none⟩ = some (.string part) := blk_cell (hB3).box 1
  have c2 : w3.cell? ⟨w.heap.size, 2, none⟩ = some (.int .i64 nodes) := blk_cell (hB3).box 2
  have c3 : w3.cell? ⟨w.heap.size, 3, none⟩ = some (.int .i64 da) := blk_cell (hB3).box 3
  have c4 : w3.cell? ⟨w.heap.size, 4, none⟩ = some (.int .i64 db) := blk_cell (hB3).box 4
  have c5 : w3.cell? ⟨w.heap.size, 5, none⟩ = some (.int .i64 dc) := blk_cell (hB3).box 5
  have c6 : w3.cell? ⟨w.heap.size, 6, none⟩ = some (.int .i64 dd) := blk_cell (hB3).box 6
  have c7 : w3.cell? ⟨w.heap.size, 7, none⟩ = some (.int .i64 wall) := blk_cell (hB3).box 7
  have c8 : w3.cell? ⟨w.heap.size, 8, none⟩ = some (.int .i64 prio) := blk_cell (hB3).box 8
  have c9 : w3.cell? ⟨w.heap.size, 9, none⟩ = some (.int .i64 array) := blk_cell (hB3).box 9
  have c10 : w3.cell? ⟨w.heap.size, 10, none⟩ = some (.int .i64 retries) := blk_cell (hB3).box 10
  have c11 : w3.cell? ⟨w.heap.size, 11, none⟩ = some (.bool held) := blk_cell (hB3).box 11
  have c12 : w3.cell? ⟨w.heap.size, 12, none⟩ = some (.slice so n cp) := blk_cell (hB3).box 12
  replace hB3 := Lib.hid hB3; replace hb := Lib.hid hb
  clear hb
  go_wp2_with fail
  refine (k4.out _ hB3.out).mono ?_
  rintro e w4 ⟨rfl, hb⟩
  have hB4 := (hB3).out.below hb
  clear c0 c1 c2 c3 c4 c5 c6 c7 c8 c9 c10 c11 c12
  have c0 : w4.cell? ⟨w.heap.size, 0, none⟩ = some (.string user) := blk_cell (hB4).box 0
  have c1 : w4.cell? ⟨w.heap.size, 1, none⟩ = some (.string part) := blk_cell (hB4).box 1
  have c2 : w4.cell? ⟨w.heap.size, 2, none⟩ = some (.int .i64 nodes) := blk_cell (hB4).box 2
  have c3 : w4.cell? ⟨w.heap.size, 3, none⟩ = some (.int .i64 da) := blk_cell (hB4).box 3
  have c4 : w4.cell? ⟨w.heap.size, 4, none⟩ = some (.int .i64 db) := blk_cell (hB4).box 4
  have c5 : w4.cell? ⟨w.heap.size, 5, none⟩ = some (.int .i64 dc) := blk_cell (hB4).box 5
  have c6 : w4.cell? ⟨w.heap.size, 6, none⟩ = some (.int .i64 dd) := blk_cell (hB4).box 6
  have c7 : w4.cell? ⟨w.heap.size, 7, none⟩ = some (.int .i64 wall) := blk_cell (hB4).box 7
  have c8 : w4.cell? ⟨w.heap.size, 8, none⟩ = some (.int .i64 prio) := blk_cell (hB4).box 8
  have c9 : w4.cell? ⟨w.heap.size, 9, none⟩ = some (.int .i64 array) := blk_cell (hB4).box 9
  have c10 : w4.cell? ⟨w.heap.size, 10, none⟩ = some (.int .i64 retries) := blk_cell (hB4).box 10
  have c11 : w4.cell? ⟨w.heap.size, 11, none⟩ = some (.bool held) := blk_cell (hB4).box 11
  have c12 : w4.cell? ⟨w.heap.size, 12, none⟩ = some (.slice so n cp) := blk_cell (hB4).box 12
  replace hB4 := Lib.hid hB4; replace hb := Lib.hid hb
  clear hb
  cases b1 with
  | false =>
    go_wp2
    go_ret
    exact ⟨by rw [hz.out]; rfl, (hB4).out.low⟩
  | true =>
  cases b2 with
  | false =>
    go_wp2
    go_ret
    exact ⟨by rw [hz.out]; rfl, (hB4).out.low⟩
  | true =>
  cases b3 with
  | false =>
    go_wp2
    go_ret
    exact ⟨by rw [hz.out]; rfl, (hB4).out.low⟩
  | true =>
  cases b4 with
  | false =>
    go_wp2
    go_ret
    exact ⟨by rw [hz.out]; rfl, (hB4).out.low⟩
  | true =>
  go_wp2_with fail
  refine (k5.out _).mono ?_
  rintro e w5 ⟨rfl, rfl⟩
  cases b5 with
  | false =>
    go_wp2
    go_ret
    exact ⟨by rw [hz.out]; rfl, (hB4).out.low⟩
  | true =>
  go_wp2_with fail
  refine (k6.out _).mono ?_
  rintro e w6 ⟨rfl, rfl⟩
  cases b6 with
  | false =>
    go_wp2
    go_ret
    exact ⟨by rw [hz.out]; rfl, (hB4).out.low⟩
  | true =>
  go_wp2_with fail
  refine (k7.out _).mono ?_
  rintro e w7 ⟨rfl, rfl⟩
  cases b7 with
  | false =>
    go_wp2
    go_ret
    exact ⟨by rw [hz.out]; rfl, (hB4).out.low⟩
  | true =>
  go_wp2_with fail
  refine (k8.out _).mono ?_
  rintro e w8 ⟨rfl, rfl⟩
  cases b8 with
  | false =>
    go_wp2
    go_ret
    exact ⟨by rw [hz.out]; rfl, (hB4).out.low⟩
  | true =>
  go_wp2_with fail
  refine (k9.out _).mono ?_
  rintro e w9 ⟨rfl, rfl⟩
  cases b9 with
  | false =>
    go_wp2
    go_ret
    exact ⟨by rw [hz.out]; rfl, (hB4).out.low⟩
  | true =>
    go_wp2
    go_ret
    exact ⟨by rw [hz.out]; rfl, (hB4).out.low⟩

set_option maxRecDepth 100000 in
set_option maxHeartbeats 3200000 in
theorem check_any (x : Spv) (w : World) (hx : x.ok w) : Calls Tryz.prog 35 #[x.val] w fun e w' => e = .returned (.int .i64 (errS x.pl)) ∧ Below w.heap.size w w' := by
  have hB0 := BoxC.new w x
  obtain ⟨⟨user, part, nodes, ⟨da, db, dc, dd⟩, wall, prio, array, retries, held, after⟩, so, n, cp⟩ := x
  obtain ⟨b1, hb1⟩ : ∃ b, b = isName user := ⟨_, rfl⟩
  obtain ⟨b2, hb2⟩ : ∃ b, b = isName part := ⟨_, rfl⟩
  obtain ⟨b4, hb4⟩ : ∃ b, b = waitsL after := ⟨_, rfl⟩
  obtain ⟨b5, hb5⟩ : ∃ b, b = betw nodes 1 16 := ⟨_, rfl⟩
  obtain ⟨b6, hb6⟩ : ∃ b, b = betw wall 1 1000 := ⟨_, rfl⟩
  obtain ⟨b7, hb7⟩ : ∃ b, b = betw prio 0 100 := ⟨_, rfl⟩
  obtain ⟨b8, hb8⟩ : ∃ b, b = betw array 1 20 := ⟨_, rfl⟩
  obtain ⟨b9, hb9⟩ : ∃ b, b = betw retries 0 5 := ⟨_, rfl⟩
  have hcr := right_any ⟨da, db, dc, dd⟩
  obtain ⟨r, hr⟩ : ∃ r, r = V4.right ⟨da, db, dc, dd⟩ := ⟨_, rfl⟩
  rw [← hr] at hcr
  have hE := eq25 ⟨da, db, dc, dd⟩ ⟨0, 0, 0, 0⟩
  obtain ⟨q, hq⟩ : ∃ q, q = decide ((⟨da, db, dc, dd⟩ : V4) = ⟨0, 0, 0, 0⟩) := ⟨_, rfl⟩
  rw [← hq] at hE
  have hd : demOk ⟨da, db, dc, dd⟩ = (r && !q) := by
    unfold demOk
    rw [hr, hq, ← decide_not]; rfl
  have hz : errS ⟨user, part, nodes, ⟨da, db, dc, dd⟩, wall, prio, array, retries, held, after⟩ = if (b1 && b2 && (r && !q) && b4 && b5 && b6 && b7 && b8 && b9) = true then 0 else 80 := by
    rw [hb1, hb2, ← hd, hb4, hb5, hb6, hb7, hb8, hb9]; rfl
  have k1 : ∀ W, Calls Tryz.prog 67 #[.string user] W fun e w' => e = .returned (.bool b1) ∧ Below W.heap.size W w' := fun W => by rw [hb1]; exact name_any user W hx.user
  have k2 : ∀ W, Calls Tryz.prog 67 #[.string part] W fun e w' => e = .returned (.bool b2) ∧ Below W.heap.size W w' := fun W => by rw [hb2]; exact name_any part W hx.part
  have k4 : ∀ W, BoxC w ⟨⟨user, part, nodes, ⟨da, db, dc, dd⟩, wall, prio, array, retries, held, after⟩, so, n, cp⟩ W → Calls Tryz.prog 73 #[.slice so n cp] W fun e w' => e = .returned (.bool b4) ∧ w' = W := fun W hW => by rw [hb4]; exact waits_any so n cp after W (hW.ok hx).after hx.ple
  have k5 : ∀ W, Calls Tryz.prog 71 #[.int .i64 nodes, .int .i64 1, .int .i64 16] W fun e w' => e = .returned (.bool b5) ∧ w' = W := fun W => by rw [hb5]; exact between_any _ _ _ W
  have k6 : ∀ W, Calls Tryz.prog 71 #[.int .i64 wall, .int .i64 1, .int .i64 1000] W fun e w' => e = .returned (.bool b6) ∧ w' = W := fun W => by rw [hb6]; exact between_any _ _ _ W
  have k7 : ∀ W, Calls Tryz.prog 71 #[.int .i64 prio, .int .i64 0, .int .i64 100] W fun e w' => e = .returned (.bool b7) ∧ w' = W := fun W => by rw [hb7]; exact between_any _ _ _ W
  have k8 : ∀ W, Calls Tryz.prog 71 #[.int .i64 array, .int .i64 1, .int .i64 20] W fun e w' => e = .returned (.bool b8) ∧ w' = W := fun W => by rw [hb8]; exact between_any _ _ _ W
  have k9 : ∀ W, Calls Tryz.prog 71 #[.int .i64 retries, .int .i64 0, .int .i64 5] W fun e w' => e = .returned (.bool b9) ∧ w' = W := fun W => by rw [hb9]; exact between_any _ _ _ W
  clear hb1 hb2 hr hq hd hb4 hb5 hb6 hb7 hb8 hb9
  have c0 : (w.alloc (.cells (⟨⟨user, part, nodes, ⟨da, db, dc, dd⟩, wall, prio, array, retries, held, after⟩, so, n, cp⟩ : Spv).cells 26 (0, 0))).cell? ⟨w.heap.size, 0, none⟩ = some (.string user) := blk_cell hB0.box 0
  have c1 : (w.alloc (.cells (⟨⟨user, part, nodes, ⟨da, db, dc, dd⟩, wall, prio, array, retries, held, after⟩, so, n, cp⟩ : Spv).cells 26 (0, 0))).cell? ⟨w.heap.size, 1, none⟩ = some (.string part) := blk_cell hB0.box 1
  have c2 : (w.alloc (.cells (⟨⟨user, part, nodes, ⟨da, db, dc, dd⟩, wall, prio, array, retries, held, after⟩, so, n, cp⟩ : Spv).cells 26 (0, 0))).cell? ⟨w.heap.size, 2, none⟩ = some (.int .i64 nodes) := blk_cell hB0.box 2
  have c3 : (w.alloc (.cells (⟨⟨user, part, nodes, ⟨da, db, dc, dd⟩, wall, prio, array, retries, held, after⟩, so, n, cp⟩ : Spv).cells 26 (0, 0))).cell? ⟨w.heap.size, 3, none⟩ = some (.int .i64 da) := blk_cell hB0.box 3
  have c4 : (w.alloc (.cells (⟨⟨user, part, nodes, ⟨da, db, dc, dd⟩, wall, prio, array, retries, held, after⟩, so, n, cp⟩ : Spv).cells 26 (0, 0))).cell? ⟨w.heap.size, 4, none⟩ = some (.int .i64 db) := blk_cell hB0.box 4
  have c5 : (w.alloc (.cells (⟨⟨user, part, nodes, ⟨da, db, dc, dd⟩, wall, prio, array, retries, held, after⟩, so, n, cp⟩ : Spv).cells 26 (0, 0))).cell? ⟨w.heap.size, 5, none⟩ = some (.int .i64 dc) := blk_cell hB0.box 5
  have c6 : (w.alloc (.cells (⟨⟨user, part, nodes, ⟨da, db, dc, dd⟩, wall, prio, array, retries, held, after⟩, so, n, cp⟩ : Spv).cells 26 (0, 0))).cell? ⟨w.heap.size, 6, none⟩ = some (.int .i64 dd) := blk_cell hB0.box 6
  have c7 : (w.alloc (.cells (⟨⟨user, part, nodes, ⟨da, db, dc, dd⟩, wall, prio, array, retries, held, after⟩, so, n, cp⟩ : Spv).cells 26 (0, 0))).cell? ⟨w.heap.size, 7, none⟩ = some (.int .i64 wall) := blk_cell hB0.box 7
  have c8 : (w.alloc (.cells (⟨⟨user, part, nodes, ⟨da, db, dc, dd⟩, wall, prio, array, retries, held, after⟩, so, n, cp⟩ : Spv).cells 26 (0, 0))).cell? ⟨w.heap.size, 8, none⟩ = some (.int .i64 prio) := blk_cell hB0.box 8
  have c9 : (w.alloc (.cells (⟨⟨user, part, nodes, ⟨da, db, dc, dd⟩, wall, prio, array, retries, held, after⟩, so, n, cp⟩ : Spv).cells 26 (0, 0))).cell? ⟨w.heap.size, 9, none⟩ = some (.int .i64 array) := blk_cell hB0.box 9
  have c10 : (w.alloc (.cells (⟨⟨user, part, nodes, ⟨da, db, dc, dd⟩, wall, prio, array, retries, held, after⟩, so, n, cp⟩ : Spv).cells 26 (0, 0))).cell? ⟨w.heap.size, 10, none⟩ = some (.int .i64 retries) := blk_cell hB0.box 10
  have c11 : (w.alloc (.cells (⟨⟨user, part, nodes, ⟨da, db, dc, dd⟩, wall, prio, array, retries, held, after⟩, so, n, cp⟩ : Spv).cells 26 (0, 0))).cell? ⟨w.heap.size, 11, none⟩ = some (.bool held) := blk_cell hB0.box 11
  have c12 : (w.alloc (.cells (⟨⟨user, part, nodes, ⟨da, db, dc, dd⟩, wall, prio, array, retries, held, after⟩, so, n, cp⟩ : Spv).cells 26 (0, 0))).cell? ⟨w.heap.size, 12, none⟩ = some (.slice so n cp) := blk_cell hB0.box 12
  replace hz := Lib.hid hz; replace k1 := Lib.hid k1; replace k2 := Lib.hid k2; replace hcr := Lib.hid hcr; replace k4 := Lib.hid k4; replace k5 := Lib.hid k5; replace k6 := Lib.hid k6; replace k7 := Lib.hid k7; replace k8 := Lib.hid k8; replace k9 := Lib.hid k9; replace hx := Lib.hid hx; replace hB0 := Lib.hid hB0
  have hE' := Lib.hid hE
  clear hE
  go_enter Tryz.func35, Tryz.ntmps35
  go_wp2_with fail
  refine (k1.out _).mono ?_
  rintro e w1 ⟨rfl, hb⟩
  have hB1 := (hB0).out.below hb
  clear c0 c1 c2 c3 c4 c5 c6 c7 c8 c9 c10 c11 c12
  have c0 : w1.cell? ⟨w.heap.size, 0, none⟩ = some (.string user) := blk_cell (hB1).box 0
  have c1 : w1.cell? ⟨w.heap.size, 1, none⟩ = some (.string part) := blk_cell (hB1).box 1
  have c2 : w1.cell? ⟨w.heap.size, 2, none⟩ = some (.int .i64 nodes) := blk_cell (hB1).box 2
  have c3 : w1.cell? ⟨w.heap.size, 3, none⟩ = some (.int .i64 da) := blk_cell (hB1).box 3
  have c4 : w1.cell? ⟨w.heap.size, 4, none⟩ = some (.int .i64 db) := blk_cell (hB1).box 4
  have c5 : w1.cell? ⟨w.heap.size, 5, none⟩ = some (.int .i64 dc) := blk_cell (hB1).box 5
  have c6 : w1.cell? ⟨w.heap.size, 6, none⟩ = some (.int .i64 dd) := blk_cell (hB1).box 6
  have c7 : w1.cell? ⟨w.heap.size, 7, none⟩ = some (.int .i64 wall) := blk_cell (hB1).box 7
  have c8 : w1.cell? ⟨w.heap.size, 8, none⟩ = some (.int .i64 prio) := blk_cell (hB1).box 8
  have c9 : w1.cell? ⟨w.heap.size, 9, none⟩ = some (.int .i64 array) := blk_cell (hB1).box 9
  have c10 : w1.cell? ⟨w.heap.size, 10, none⟩ = some (.int .i64 retries) := blk_cell (hB1).box 10
  have c11 : w1.cell? ⟨w.heap.size, 11, none⟩ = some (.bool held) := blk_cell (hB1).box 11
  have c12 : w1.cell? ⟨w.heap.size, 12, none⟩ = some (.slice so n cp) := blk_cell (hB1).box 12
  replace hB1 := Lib.hid hB1; replace hb := Lib.hid hb
  clear hb
  cases b1 with
  | false =>
    go_wp2
    go_ret
    exact ⟨by rw [hz.out]; rfl, (hB1).out.low⟩
  | true =>
  go_wp2_with fail
  refine (k2.out _).mono ?_
  rintro e w2 ⟨rfl, hb⟩
  have hB2 := (hB1).out.below hb
  clear c0 c1 c2 c3 c4 c5 c6 c7 c8 c9 c10 c11 c12
  have c0 : w2.cell? ⟨w.heap.size, 0, none⟩ = some (.string user) := blk_cell (hB2).box 0
  have c1 : w2.cell? ⟨w.heap.size, 1, none⟩ = some (.string part) := blk_cell (hB2).box 1
  have c2 : w2.cell? ⟨w.heap.size, 2, none⟩ = some (.int .i64 nodes) := blk_cell (hB2).box 2
  have c3 : w2.cell? ⟨w.heap.size, 3, none⟩ = some (.int .i64 da) := blk_cell (hB2).box 3
  have c4 : w2.cell? ⟨w.heap.size, 4, none⟩ = some (.int .i64 db) := blk_cell (hB2).box 4
  have c5 : w2.cell? ⟨w.heap.size, 5, none⟩ = some (.int .i64 dc) := blk_cell (hB2).box 5
  have c6 : w2.cell? ⟨w.heap.size, 6, none⟩ = some (.int .i64 dd) := blk_cell (hB2).box 6
  have c7 : w2.cell? ⟨w.heap.size, 7, none⟩ = some (.int .i64 wall) := blk_cell (hB2).box 7
  have c8 : w2.cell? ⟨w.heap.size, 8, none⟩ = some (.int .i64 prio) := blk_cell (hB2).box 8
  have c9 : w2.cell? ⟨w.heap.size, 9, none⟩ = some (.int .i64 array) := blk_cell (hB2).box 9
  have c10 : w2.cell? ⟨w.heap.size, 10, none⟩ = some (.int .i64 retries) := blk_cell (hB2).box 10
  have c11 : w2.cell? ⟨w.heap.size, 11, none⟩ = some (.bool held) := blk_cell (hB2).box 11
  have c12 : w2.cell? ⟨w.heap.size, 12, none⟩ = some (.slice so n cp) := blk_cell (hB2).box 12
  replace hB2 := Lib.hid hB2; replace hb := Lib.hid hb
  clear hb
  cases b2 with
  | false =>
    go_wp2
    go_ret
    exact ⟨by rw [hz.out]; rfl, (hB2).out.low⟩
  | true =>
  go_wp2_with fail
  refine (hcr.out _).mono ?_
  rintro e w3 ⟨rfl, hb⟩
  have hB3 := (hB2).out.below hb
  clear c0 c1 c2 c3 c4 c5 c6 c7 c8 c9 c10 c11 c12
  have c0 : w3.cell? ⟨w.heap.size, 0, none⟩ = some (.string user) := blk_cell (hB3).box 0
  have c1 : w3.cell? ⟨w.heap.size, 1, none⟩ = some (.string part) := blk_cell (hB3).box 1
  have c2 : w3.cell? ⟨w.heap.size, 2, none⟩ = some (.int .i64 nodes) := blk_cell (hB3).box 2
  have c3 : w3.cell? ⟨w.heap.size, 3, none⟩ = some (.int .i64 da) := blk_cell (hB3).box 3
  have c4 : w3.cell? ⟨w.heap.size, 4, none⟩ = some (.int .i64 db) := blk_cell (hB3).box 4
  have c5 : w3.cell? ⟨w.heap.size, 5, none⟩ = some (.int .i64 dc) := blk_cell (hB3).box 5
  have c6 : w3.cell? ⟨w.heap.size, 6, none⟩ = some (.int .i64 dd) := blk_cell (hB3).box 6
  have c7 : w3.cell? ⟨w.heap.size, 7, none⟩ = some (.int .i64 wall) := blk_cell (hB3).box 7
  have c8 : w3.cell? ⟨w.heap.size, 8, none⟩ = some (.int .i64 prio) := blk_cell (hB3).box 8
  have c9 : w3.cell? ⟨w.heap.size, 9, none⟩ = some (.int .i64 array) := blk_cell (hB3).box 9
  have c10 : w3.cell? ⟨w.heap.size, 10, none⟩ = some (.int .i64 retries) := blk_cell (hB3).box 10
  have c11 : w3.cell? ⟨w.heap.size, 11, none⟩ = some (.bool held) := blk_cell (hB3).box 11
  have c12 : w3.cell? ⟨w.heap.size, 12, none⟩ = some (.slice so n cp) := blk_cell (hB3).box 12
  replace hB3 := Lib.hid hB3; replace hb := Lib.hid hb
  clear hb
  cases r with
  | false =>
    go_wp2
    go_ret
    exact ⟨by rw [hz.out]; rfl, (hB3).out.low⟩
  | true =>
  have hE := hE'.out
  cases q with
  | true =>
    go_wp2
    go_ret
    exact ⟨by rw [hz.out]; rfl, (hB3).out.low⟩
  | false =>
  go_wp2_with fail
  refine (k4.out _ hB3.out).mono ?_
  rintro e w4 ⟨rfl, rfl⟩
  clear hE
  cases b4 with
  | false =>
    go_wp2
    go_ret
    exact ⟨by rw [hz.out]; rfl, (hB3).out.low⟩
  | true =>
  go_wp2_with fail
  refine (k5.out _).mono ?_
  rintro e w5 ⟨rfl, rfl⟩
  cases b5 with
  | false =>
    go_wp2
    go_ret
    exact ⟨by rw [hz.out]; rfl, (hB3).out.low⟩
  | true =>
  go_wp2_with fail
  refine (k6.out _).mono ?_
  rintro e w6 ⟨rfl, rfl⟩
  cases b6 with
  | false =>
    go_wp2
    go_ret
    exact ⟨by rw [hz.out]; rfl, (hB3).out.low⟩
  | true =>
  go_wp2_with fail
  refine (k7.out _).mono ?_
  rintro e w7 ⟨rfl, rfl⟩
  cases b7 with
  | false =>
    go_wp2
    go_ret
    exact ⟨by rw [hz.out]; rfl, (hB3).out.low⟩
  | true =>
  go_wp2_with fail
  refine (k8.out _).mono ?_
  rintro e w8 ⟨rfl, rfl⟩
  cases b8 with
  | false =>
    go_wp2
    go_ret
    exact ⟨by rw [hz.out]; rfl, (hB3).out.low⟩
  | true =>
  go_wp2_with fail
  refine (k9.out _).mono ?_
  rintro e w9 ⟨rfl, rfl⟩
  cases b9 with
  | false =>
    go_wp2
    go_ret
    exact ⟨by rw [hz.out]; rfl, (hB3).out.low⟩
  | true =>
    go_wp2
    go_ret
    exact ⟨by rw [hz.out]; rfl, (hB3).out.low⟩
end Go.Proofs.YteoihdkaoipocaaGreatDoor

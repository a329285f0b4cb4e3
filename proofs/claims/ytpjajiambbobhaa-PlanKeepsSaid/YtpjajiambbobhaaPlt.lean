/- corveelaw12.again, ended, mixed: what lies between two passes. -/
import Derived.Test.YtpjajiambbobhaaPmd
import Derived.Test.YtpjajiambbobhaaPls
import Derived.Test.YtpjajiambbobhaaPlr
namespace Go.Proofs.Ytpjajiambbobhaa
open Go.RowKit

theorem again_take {asks : List Ask} {slots : List Slot} {k : Nat} {a : Ask} {s : Slot} (h : asks[k]? = some a) (h' : slots[k]? = some s) : (againL asks slots).take (k + 1) = (againL asks slots).take k ++ [a.but s] := by
  refine take_snoc ?_
  simp only [againL]
  rw [List.getElem?_map, (List.getElem?_zip_eq_some.2 ⟨h, h'⟩ : (asks.zip slots)[k]? = some (a, s))]
  rfl
theorem again_len (asks : List Ask) (slots : List Slot) (h : slots.length = asks.length) : (againL asks slots).length = asks.length := by simp [againL, h]
theorem info84 : (Try.prog.info? 84).map (fun i => (i.zero, i.size, i.bytes)) = some (some Ask.zero.val, 10, 112) := by kernel_rfl
theorem info94 : (Try.prog.info? 94).map (fun i => (i.zero, i.size, i.bytes)) = some (some (.agg #[.slice none 0 0, .int .i64 0, .int .i64 0, .int .i64 0, .int .i64 0, .int .i64 0]), 6, 64) := by kernel_rfl
theorem ask_one (a : Ask) : ∀ u ∈ a.cells.toList, u.oneCell' = true := by simp [Value.oneCell']
theorem ten_pos : 0 < 10 := by decide
theorem six_pos : 0 < 6 := by decide
def AgainPost (asks : List Ask) (slots : List Slot) (w : World) (e : Ending) (w' : World) : Prop :=
  ∃ sv, e = .returned sv ∧ w'.ownsRow w.heap.size 84 10 sv asks.length (flatv Ask.cells (againL asks slots)) ∧ (asks.length = 0 → sv = .slice none 0 0) ∧ Below w.heap.size w w'

set_option maxRecDepth 100000 in
set_option maxHeartbeats 6400000 in
theorem again_any (ao so : Option Addr) (l ac sc : Nat) (asks : List Ask) (slots : List Slot) (w : World) (ha : AsksAt w ao l asks) (hs : SlotsAt w so l slots) (hl : l ≤ 1000000) :
    Calls Try.prog 87 #[.slice ao l ac, .slice so l sc] w (AgainPost asks slots w) := by
  obtain ⟨i84, hi, hz, hz1, hz2⟩ := info_parts info84
  have hal := ha.len
  have hsl := hs.len
  replace ha := Lib.hid ha; replace hs := Lib.hid hs; replace hal := Lib.hid hal; replace hsl := Lib.hid hsl
  go_enter Try.func87, Try.ntmps87
  go_wp2
  go_loopw [5, 6, 7] (fun ov i _ wr => ∃ k : Nat, i = .int .i64 k ∧ k ≤ l ∧ Hid (Below w.heap.size w wr) ∧ Hid (wr.ownsRow w.heap.size 84 10 ov k (flatv Ask.cells ((againL asks slots).take k))) ∧ Hid (k = 0 → ov = .slice none 0 0)) (fun _ i _ _ => l - (intOf i).toNat)
  case atStart => exact ⟨0, rfl, Nat.zero_le _, Below.refl _ _, World.ownsRow_nil w w.heap.size 84 10, fun _ => rfl⟩
  case round =>
    obtain ⟨k, rfl, hk, hB, hown, hnil⟩ := hrel
    by_cases hc : k < l
    · have hc1 : (k : Int) < l := by omega
      have hk0 : (0 : Int) ≤ (k : Int) := by omega
      obtain ⟨a, hax⟩ := ha.out.get hc
      obtain ⟨b, off, rfl, hb, a0, hao⟩ := ha.out.cell k a hax
      obtain ⟨s, hsx⟩ := hs.out.get hc
      obtain ⟨b', off', rfl, hb', s0, hso⟩ := hs.out.cell k s hsx
      have c0 := (below_cell hB.out hb).trans (a0 0 (by omega)); have c1 := (below_cell hB.out hb).trans (a0 1 (by omega)); have c2 := (below_cell hB.out hb).trans (a0 2 (by omega)); have c3 := (below_cell hB.out hb).trans (a0 3 (by omega)); have c4 := (below_cell hB.out hb).trans (a0 4 (by omega))
      have c5 := (below_cell hB.out hb).trans (a0 5 (by omega)); have c6 := (below_cell hB.out hb).trans (a0 6 (by omega)); have c7 := (below_cell hB.out hb).trans (a0 7 (by omega)); have c8 := (below_cell hB.out hb).trans (a0 8 (by omega)); have c9 := (below_cell hB.out hb).trans (a0 9 (by omega))
      simp at c0 c1 c2 c3 c4 c5 c6 c7 c8 c9
      have d1 := (below_cell hB.out hb').trans (s0 1 (by omega)); have d2 := (below_cell hB.out hb').trans (s0 2 (by omega))
      simp at d1 d2
      clear a0 s0
      have hsz := hB.out.size
      have hbr := Nat.lt_of_lt_of_le hb hsz
      have hbr' := Nat.lt_of_lt_of_le hb' hsz
      replace hax := Lib.hid hax; replace hsx := Lib.hid hsx; replace hao := Lib.hid hao; replace hso := Lib.hid hso
      have hB2 : Below wr.heap.size wr ((wr.alloc (a.but s).obj).alloc (.cells (a.but s).cells 84 (0, 0))) := ((Below.refl _ _).alloc (Nat.le_refl _) _).alloc (by simp) _
      have hownA := (hown.out.alloc (a.but s).obj).alloc (.cells (a.but s).cells 84 (0, 0))
      have hnews := cells_new (wr.alloc (a.but s).obj) (a.but s).cells 84
      have hone := ask_one (a.but s)
      have h63 := maxLen_ge (n := k) (by omega)
      have hby : (k + 1) * 112 ≤ 140737488355328 := by omega
      have hbas : w.heap.size ≤ ((wr.alloc (a.but s).obj).alloc (.cells (a.but s).cells 84 (0, 0))).heap.size := Nat.le_trans hsz hB2.size
      have hlt := hown.out.lt
      have hsn := again_take hax.out hsx.out
      rw [World.size_alloc] at hnews
      replace hB2 := Lib.hid hB2; replace hownA := Lib.hid hownA; replace hnews := Lib.hid hnews; replace hone := Lib.hid hone; replace h63 := Lib.hid h63; replace hby := Lib.hid hby; replace hbas := Lib.hid hbas; replace hlt := Lib.hid hlt; replace hsn := Lib.hid hsn; replace hsz := Lib.hid hsz
      go_wp2_with (at_builtin; refine wpList_append_own _ rfl _ _ 75 rfl (w.heap.size) 84 i84 _ 10 112 Try.underlying75 hi hz hz1 hz2 rfl ten_pos _ k _ rfl hownA.out ⟨wr.heap.size + 1, 0, none⟩ 1 1 (a.but s).cells.toList rfl rfl hnews.out hone.out h63.out hby.out hbas.out ?_; intro v1 w9 hown9 hgrow _; obtain ⟨g, cap1, rfl⟩ := Joins.ownsRow_form hown9 (Nat.succ_pos _); replace hown9 := Lib.hid hown9; replace hgrow := Lib.hid hgrow)
      have hO9 : w9.ownsRow w.heap.size 84 10 (.slice (some ⟨g, 0, none⟩) (k + 1) cap1) (k + 1) (flatv Ask.cells ((againL asks slots).take (k + 1))) := by
        rw [hsn.out, flatv_append, flatv_one]; exact hown9.out
      have hB9 := (hB.out.trans (hB2.out.mono hsz.out)).grown hgrow.out hbas.out (fun k hk => (hlt.out k hk).1)
      replace hO9 := Lib.hid hO9; replace hB9 := Lib.hid hB9
      go_roundw
      case rel => exact ⟨k + 1, by go_num, by omega, hB9.out, hO9.out, fun h => by omega⟩
      case measure => simp [intOf]; omega
    · have hc1 : ¬ (k : Int) < l := by omega
      have hkl : k = asks.length := by rw [hal.out]; omega
      have hO := hown.out
      rw [List.take_of_length_le (by rw [again_len _ _ (by rw [hsl.out, hal.out]), hal.out]; omega), hkl] at hO
      replace hkl := Lib.hid hkl
      replace hO := Lib.hid hO
      go_wp2
      go_ret
      exact ⟨_, rfl, hO.out, fun h => hnil.out (by rw [hkl.out]; exact h), hB.out⟩

structure Later where
  ticks : Int
  eo : Option Addr
  en : Nat
  ec : Nat
  ezs : List Int
  goes : Int
  comes : Ask
  at_ : Int
  turn : Int
def Later.zero : Later := ⟨0, none, 0, 0, [], 0, Ask.zero, 0, 0⟩
abbrev Later.cells (l : Later) : Array Value := #[.int .i64 l.ticks, .slice l.eo l.en l.ec, .int .i64 l.goes, .int .i64 l.comes.id, .slice l.comes.po l.comes.pn l.comes.pc, .int .i64 l.comes.nodes, .int .i64 l.comes.v.a, .int .i64 l.comes.v.b, .int .i64 l.comes.v.c, .int .i64 l.comes.v.d, .int .i64 l.comes.ticks, .int .i64 l.comes.start, .slice l.comes.go l.comes.gn l.comes.gc, .int .i64 l.at_, .int .i64 l.turn]
abbrev Later.val (l : Later) : Value := .agg #[.int .i64 l.ticks, .slice l.eo l.en l.ec, .int .i64 l.goes, .int .i64 l.comes.id, .slice l.comes.po l.comes.pn l.comes.pc, .int .i64 l.comes.nodes, .int .i64 l.comes.v.a, .int .i64 l.comes.v.b, .int .i64 l.comes.v.c, .int .i64 l.comes.v.d, .int .i64 l.comes.ticks, .int .i64 l.comes.start, .slice l.comes.go l.comes.gn l.comes.gc, .int .i64 l.at_, .int .i64 l.turn]
def Later.obj (l : Later) : Obj := .cells l.cells 86 (0, 0)
structure Later.ok (w : World) (l : Later) : Prop where
  ends : IntsAt w l.eo l.en l.ezs
  comes : l.comes.ok w
theorem Later.ok.below {w w' : World} {l : Later} (h : l.ok w) (hb : Below w.heap.size w w') : l.ok w' := ⟨h.ends.below hb (Nat.le_refl _), h.comes.below' hb⟩
theorem later_cells {w : World} {b : Nat} {l : Later} (h : w.heap[b]? = some l.obj) : w.cell? ⟨b, 0, none⟩ = some (.int .i64 l.ticks) ∧ w.cell? ⟨b, 1, none⟩ = some (.slice l.eo l.en l.ec) ∧ w.cell? ⟨b, 2, none⟩ = some (.int .i64 l.goes) ∧ w.cell? ⟨b, 3, none⟩ = some (.int .i64 l.comes.id) ∧
    w.cell? ⟨b, 4, none⟩ = some (.slice l.comes.po l.comes.pn l.comes.pc) ∧ w.cell? ⟨b, 5, none⟩ = some (.int .i64 l.comes.nodes) ∧ w.cell? ⟨b, 6, none⟩ = some (.int .i64 l.comes.v.a) ∧ w.cell? ⟨b, 7, none⟩ = some (.int .i64 l.comes.v.b) ∧ w.cell? ⟨b, 8, none⟩ = some (.int .i64 l.comes.v.c) ∧ w.cell? ⟨b, 9, none⟩ = some (.int .i64 l.comes.v.d) ∧
    w.cell? ⟨b, 10, none⟩ = some (.int .i64 l.comes.ticks) ∧ w.cell? ⟨b, 11, none⟩ = some (.int .i64 l.comes.start) ∧ w.cell? ⟨b, 12, none⟩ = some (.slice l.comes.go l.comes.gn l.comes.gc) ∧ w.cell? ⟨b, 13, none⟩ = some (.int .i64 l.at_) ∧ w.cell? ⟨b, 14, none⟩ = some (.int .i64 l.turn) :=
  ⟨blk_cell h 0, blk_cell h 1, blk_cell h 2, blk_cell h 3, blk_cell h 4, blk_cell h 5, blk_cell h 6, blk_cell h 7, blk_cell h 8, blk_cell h 9, blk_cell h 10, blk_cell h 11, blk_cell h 12, blk_cell h 13, blk_cell h 14⟩
structure SB (w : World) (x : Scene) (l : Later) (wr : World) : Prop where
  xb : wr.heap[w.heap.size]? = some x.obj
  lb : wr.heap[w.heap.size + 1]? = some l.obj
  xok : x.ok wr
  lok : l.ok wr
  low : Below w.heap.size w wr
theorem SB.below {w : World} {x : Scene} {l : Later} {wr w' : World} (h : SB w x l wr) (hb : Below wr.heap.size wr w') : SB w x l w' :=
  ⟨blk_below hb h.xb (blk_lt h.xb), blk_below hb h.lb (blk_lt h.lb), h.xok.below hb, h.lok.below hb, h.low.trans (hb.mono h.low.size)⟩
theorem SB.new {w : World} {x : Scene} {l : Later} (hx : x.ok w) (hl : l.ok w) : SB w x l ((w.alloc x.obj).alloc l.obj) := by
  have hb : Below w.heap.size w ((w.alloc x.obj).alloc l.obj) := ((Below.refl _ _).alloc (Nat.le_refl _) _).alloc (by simp) _
  exact ⟨blk_old _ (blk_new _ _), blk_at _ _ (by simp), hx.below hb, hl.below hb, hb⟩
theorem SB.grown {w : World} {x : Scene} {l : Later} {wr w' : World} {row : Option Nat} {B : Nat} (h : SB w x l wr) (hx : x.ok w) (hl : l.ok w) (hg : wr.grownBy w' row) (hr : ∀ k, row = some k → B ≤ k) (hB : w.heap.size + 2 ≤ B) (hB2 : B ≤ wr.heap.size) : SB w x l w' := by
  have hb := (Below.refl B wr).grown hg hB2 hr
  have hlow : Below w.heap.size w w' := h.low.trans (hb.mono (by omega))
  exact ⟨blk_below hb h.xb (by omega), blk_below hb h.lb (by omega), hx.below hlow, hl.below hlow, hlow⟩
abbrev Hold.until (h : Hold) (t : Int) : Hold := { h with till := t }
theorem hold_one (a : Hold) : ∀ u ∈ a.cells.toList, u.oneCell' = true := by simp [Value.oneCell']
def OfHolds (hs xs : List Hold) : Prop := ∀ y, y ∈ xs → ∃ h t, h ∈ hs ∧ y = Hold.until h t
theorem OfHolds.snoc {hs xs : List Hold} {h : Hold} (k : OfHolds hs xs) (hh : h ∈ hs) (t : Int) : OfHolds hs (xs ++ [Hold.until h t]) := fun y hy => by
  rcases List.mem_append.1 hy with hy | hy
  · exact k y hy
  · have : y = Hold.until h t := by simpa using hy
    exact ⟨h, t, hh, this⟩
def EndedPost (now least : Int) (hs : List Hold) (w : World) (e : Ending) (w' : World) : Prop := ∃ ho n c xs, e = .returned (.slice ho n c) ∧ HoldsAt w' ho n xs ∧ Ends now least hs xs ∧ Below w.heap.size w w'

set_option maxRecDepth 100000 in
set_option maxHeartbeats 6400000 in
theorem ended_any (x : Scene) (l : Later) (least : Int) (w : World) (hx : x.ok w) (hl : l.ok w) (hn0 : 0 ≤ x.now) (hn1 : x.now < 1099511627776) (hh8 : x.hn ≤ 8) :
    Calls Try.prog 53 #[x.val, l.val, .int .i64 least] w (EndedPost x.now least x.hs w) := by
  obtain ⟨i94, hi, hz, hz1, hz2⟩ := info_parts info94
  have hS0 := SB.new hx hl
  have hhl := hx.holds.len
  have hem := hl.ends.max
  replace hx := Lib.hid hx; replace hl := Lib.hid hl; replace hS0 := Lib.hid hS0; replace hhl := Lib.hid hhl
  go_enter Try.func53, Try.ntmps53
  go_wp2
  go_loopw [7, 8, 9] (fun ov i _ wr => ∃ (k n : Nat) (xs : List Hold) (sv : Value), sv = ov ∧ i = .int .i64 k ∧ k ≤ x.hn ∧ n ≤ k ∧ Hid (SB w x l wr) ∧ Hid (wr.ownsRow (w.heap.size + 2) 94 6 ov n (flatv Hold.cells xs)) ∧ Hid (xs.length = n) ∧ Hid (OfHolds x.hs xs) ∧ Hid (Ends x.now least (x.hs.take k) xs)) (fun _ i _ _ => x.hn - (intOf i).toNat)
  case atStart => exact ⟨0, 0, [], _, rfl, rfl, Nat.zero_le _, Nat.le_refl _, hS0.out, World.ownsRow_nil _ _ _ _, rfl, (fun y hy => by cases hy), rfl⟩
  case round =>
    obtain ⟨k, n, xs, sv, rfl, rfl, hk, hnk, hS, hown, hxl, hof, hE⟩ := hrel
    obtain ⟨c0, c1, c2, c3, c4⟩ := scene_cells hS.out.xb
    have lx := blk_lt hS.out.xb
    have y1 := (later_cells hS.out.lb).2.1
    have ly := blk_lt hS.out.lb
    clear c0 c1 c4
    by_cases hc : k < x.hn
    · have hc1 : (k : Int) < x.hn := by omega
      have hk0 : (0 : Int) ≤ (k : Int) := by omega
      obtain ⟨h, hhx⟩ := hS.out.xok.holds.get hc
      obtain ⟨b, off, hbo, hb, a0, hxo⟩ := hS.out.xok.holds.cell k h hhx
      rw [hbo] at c3
      have a1 := a0 0 (by omega); have a2 := a0 1 (by omega); have a3 := a0 2 (by omega); have a4 := a0 3 (by omega); have a5 := a0 4 (by omega); have a6 := a0 5 (by omega)
      simp at a1 a2 a3 a4 a5 a6
      clear a0
      replace hhx := Lib.hid hhx; replace hbo := Lib.hid hbo; replace hxo := Lib.hid hxo
      have ew : IntKind.i64.wrap (x.now + 1) = x.now + 1 := IntWalk.i64_in _ (by omega)
      obtain ⟨T0, hT0⟩ : ∃ T0, T0 = holdEnd x.now h := ⟨_, rfl⟩
      have hmx : (if h.till < x.now + 1 then x.now + 1 else h.till) = T0 := by rw [hT0]; unfold holdEnd; omega
      replace hT0 := Lib.hid hT0
      by_cases he : k < l.en
      · have he1 : (k : Int) < l.en := by omega
        obtain ⟨b', off', heo, hb', e0⟩ := hS.out.lok.ends.cell k he
        obtain ⟨z, hze⟩ : ∃ z, z = zi l.ezs k := ⟨_, rfl⟩
        rw [← hze] at e0
        rw [heo] at y1
        replace heo := Lib.hid heo; replace hze := Lib.hid hze
        cases hq : (Go.bits .and .i64 z 3 == 0)
        · obtain ⟨M, hM⟩ : ∃ M, M = if z < 0 then 0 else z := ⟨_, rfl⟩
          obtain ⟨T, hT⟩ : ∃ T, T = if M < h.till then M else h.till := ⟨_, rfl⟩
          have hTle : T ≤ h.till := by rw [hT]; split <;> omega
          have hM' := hM.symm; have hT' := hT.symm
          clear hM hT
          replace hTle := Lib.hid hTle
          go_wp2_with fail
          go_region_with (fail)
          all_goals
            clear hM' hT'
            have hBq : ∀ m, Below wr.heap.size wr ((wr.alloc (Hold.until h T).obj).drewN m) := fun m => ((Below.refl _ _).alloc (Nat.le_refl _) _).trans (below_drewN _ _ m)
            have hSq : ∀ m, SB w x l ((wr.alloc (Hold.until h T).obj).drewN m) := fun m => hS.out.below (hBq m)
            have hOq : ∀ m, ((wr.alloc (Hold.until h T).obj).drewN m).ownsRow (w.heap.size + 2) 94 6 sv n (flatv Hold.cells xs) := fun m => owns_below hown.out (hBq m) (Nat.le_refl _)
            by_cases q9 : least < T0
            rotate_left
            · have d9 : decide (least < T0) = false := by simpa using q9
              have hE2 : Ends x.now least (x.hs.take (k + 1)) xs := by rw [take_snoc hhx.out]; simpa using ends_snoc hE.out (.inl rfl)
              replace hE2 := Lib.hid hE2; replace hBq := Lib.hid hBq; replace hSq := Lib.hid hSq; replace hOq := Lib.hid hOq; replace q9 := Lib.hid q9
              go_wp2_with fail
              go_quiet (fail)
              go_wp2
              go_roundw
              case rel => exact ⟨k + 1, n, xs, sv, rfl, by go_num, by omega, by omega, hSq.out _, hOq.out _, hxl.out, hof.out, hE2.out⟩
              case measure => simp [intOf]; omega
            have d9 : decide (least < T0) = true := by simpa using q9
            have hE2 : Ends x.now least (x.hs.take (k + 1)) (xs ++ [Hold.until h T]) := by
              rw [take_snoc hhx.out]
              exact ends_snoc hE.out (.inr ⟨_, rfl, rfl, rfl, hTle.out, by rw [← hT0.out]; exact q9⟩)
            have hof2 := hof.out.snoc (List.mem_of_getElem? hhx.out) (T)
            have hxl2 := len_snoc hxl.out (Hold.until h T)
            have hone := hold_one (Hold.until h T)
            have h63 := maxLen_ge (n := n) (by omega)
            have hby : (n + 1) * 64 ≤ 140737488355328 := by omega
            have hnews : ∀ m, ∀ j u, (Hold.until h T).cells.toList[j]? = some u → (((wr.alloc (Hold.until h T).obj).drewN m).alloc (.cells (Hold.until h T).cells 94 (0, 0))).cell? ((⟨wr.heap.size + 1, 0, none⟩ : Addr).add j) = some u := fun m => by
              have e : ((wr.alloc (Hold.until h T).obj).drewN m).heap.size = wr.heap.size + 1 := by show (wr.alloc _).heap.size = _; simp
              have := cells_new ((wr.alloc (Hold.until h T).obj).drewN m) (Hold.until h T).cells 94
              rw [e] at this
              exact this
            have hownA : ∀ m, (((wr.alloc (Hold.until h T).obj).drewN m).alloc (.cells (Hold.until h T).cells 94 (0, 0))).ownsRow (w.heap.size + 2) 94 6 sv n (flatv Hold.cells xs) := fun m => (hOq m).alloc _
            have hszq : ∀ m, w.heap.size + 2 ≤ (((wr.alloc (Hold.until h T).obj).drewN m).alloc (.cells (Hold.until h T).cells 94 (0, 0))).heap.size := fun m => by
              have := (hBq m).size
              rw [World.size_alloc]; omega
            have hSA : ∀ m, SB w x l (((wr.alloc (Hold.until h T).obj).drewN m).alloc (.cells (Hold.until h T).cells 94 (0, 0))) := fun m => (hSq m).below ((Below.refl _ _).alloc (Nat.le_refl _) _)
            have hlt := hown.out.lt
            replace hE2 := Lib.hid hE2; replace hBq := Lib.hid hBq; replace hSq := Lib.hid hSq; replace hOq := Lib.hid hOq; replace q9 := Lib.hid q9; replace hof2 := Lib.hid hof2; replace hxl2 := Lib.hid hxl2; replace hone := Lib.hid hone; replace h63 := Lib.hid h63; replace hby := Lib.hid hby; replace hnews := Lib.hid hnews; replace hownA := Lib.hid hownA; replace hszq := Lib.hid hszq; replace hSA := Lib.hid hSA; replace hlt := Lib.hid hlt
            go_wp2_with fail
            go_quiet (fail)
            go_wp2_with (at_builtin; refine wpList_append_own _ rfl _ _ 74 rfl (w.heap.size + 2) 94 i94 _ 6 64 Try.underlying74 hi hz hz1 hz2 rfl six_pos _ n _ rfl (hownA.out _) ⟨wr.heap.size + 1, 0, none⟩ 1 1 (Hold.until h T).cells.toList rfl rfl (hnews.out _) hone.out h63.out hby.out (hszq.out _) ?_; intro v1 w9 hown9 hgrow _; obtain ⟨g, cap1, rfl⟩ := Joins.ownsRow_form hown9 (Nat.succ_pos _); replace hown9 := Lib.hid hown9; replace hgrow := Lib.hid hgrow)
            have hO9 : w9.ownsRow (w.heap.size + 2) 94 6 (.slice (some ⟨g, 0, none⟩) (n + 1) cap1) (n + 1) (flatv Hold.cells (xs ++ [Hold.until h T])) := by
              rw [flatv_append, flatv_one]; exact hown9.out
            have hS9 := (hSA.out _).grown hx.out hl.out hgrow.out (fun k hk => (hlt.out k hk).1) (Nat.le_refl _) (hszq.out _)
            replace hO9 := Lib.hid hO9; replace hS9 := Lib.hid hS9
            go_roundw
            case rel => exact ⟨k + 1, n + 1, xs ++ [Hold.until h T], _, rfl, by go_num, by omega, by omega, hS9.out, hO9.out, hxl2.out, hof2.out, hE2.out⟩
            case measure => simp [intOf]; omega
        · have hE2 : Ends x.now least (x.hs.take (k + 1)) xs := by rw [take_snoc hhx.out]; simpa using ends_snoc hE.out (.inl rfl)
          have hSA := hS.out.below ((Below.refl _ _).alloc (Nat.le_refl _) h.obj)
          have hOA := hown.out.alloc h.obj
          replace hE2 := Lib.hid hE2; replace hSA := Lib.hid hSA; replace hOA := Lib.hid hOA
          go_wp2
          go_roundw
          case rel => exact ⟨k + 1, n, xs, sv, rfl, by go_num, by omega, by omega, hSA.out, hOA.out, hxl.out, hof.out, hE2.out⟩
          case measure => simp [intOf]; omega
      · have he1 : ¬ (k : Int) < l.en := by omega
        have he2 : decide ((k : Int) < l.en) = false := by simp; omega
        have he3 : decide (k < l.en) = false := by simp; omega
        have hBq : ∀ m, Below wr.heap.size wr ((wr.alloc (Hold.until h h.till).obj).drewN m) := fun m => ((Below.refl _ _).alloc (Nat.le_refl _) _).trans (below_drewN _ _ m)
        have hSq : ∀ m, SB w x l ((wr.alloc (Hold.until h h.till).obj).drewN m) := fun m => hS.out.below (hBq m)
        have hOq : ∀ m, ((wr.alloc (Hold.until h h.till).obj).drewN m).ownsRow (w.heap.size + 2) 94 6 sv n (flatv Hold.cells xs) := fun m => owns_below hown.out (hBq m) (Nat.le_refl _)
        by_cases q9 : least < T0
        rotate_left
        · have d9 : decide (least < T0) = false := by simpa using q9
          have hE2 : Ends x.now least (x.hs.take (k + 1)) xs := by rw [take_snoc hhx.out]; simpa using ends_snoc hE.out (.inl rfl)
          replace hE2 := Lib.hid hE2; replace hBq := Lib.hid hBq; replace hSq := Lib.hid hSq; replace hOq := Lib.hid hOq; replace q9 := Lib.hid q9
          go_wp2_with fail
          go_quiet (fail)
          go_wp2
          go_roundw
          case rel => exact ⟨k + 1, n, xs, sv, rfl, by go_num, by omega, by omega, hSq.out _, hOq.out _, hxl.out, hof.out, hE2.out⟩
          case measure => simp [intOf]; omega
        have d9 : decide (least < T0) = true := by simpa using q9
        have hE2 : Ends x.now least (x.hs.take (k + 1)) (xs ++ [Hold.until h h.till]) := by
          rw [take_snoc hhx.out]
          exact ends_snoc hE.out (.inr ⟨_, rfl, rfl, rfl, Int.le_refl _, by rw [← hT0.out]; exact q9⟩)
        have hof2 := hof.out.snoc (List.mem_of_getElem? hhx.out) (h.till)
        have hxl2 := len_snoc hxl.out (Hold.until h h.till)
        have hone := hold_one (Hold.until h h.till)
        have h63 := maxLen_ge (n := n) (by omega)
        have hby : (n + 1) * 64 ≤ 140737488355328 := by omega
        have hnews : ∀ m, ∀ j u, (Hold.until h h.till).cells.toList[j]? = some u → (((wr.alloc (Hold.until h h.till).obj).drewN m).alloc (.cells (Hold.until h h.till).cells 94 (0, 0))).cell? ((⟨wr.heap.size + 1, 0, none⟩ : Addr).add j) = some u := fun m => by
          have e : ((wr.alloc (Hold.until h h.till).obj).drewN m).heap.size = wr.heap.size + 1 := by show (wr.alloc _).heap.size = _; simp
          have := cells_new ((wr.alloc (Hold.until h h.till).obj).drewN m) (Hold.until h h.till).cells 94
          rw [e] at this
          exact this
        have hownA : ∀ m, (((wr.alloc (Hold.until h h.till).obj).drewN m).alloc (.cells (Hold.until h h.till).cells 94 (0, 0))).ownsRow (w.heap.size + 2) 94 6 sv n (flatv Hold.cells xs) := fun m => (hOq m).alloc _
        have hszq : ∀ m, w.heap.size + 2 ≤ (((wr.alloc (Hold.until h h.till).obj).drewN m).alloc (.cells (Hold.until h h.till).cells 94 (0, 0))).heap.size := fun m => by
          have := (hBq m).size
          rw [World.size_alloc]; omega
        have hSA : ∀ m, SB w x l (((wr.alloc (Hold.until h h.till).obj).drewN m).alloc (.cells (Hold.until h h.till).cells 94 (0, 0))) := fun m => (hSq m).below ((Below.refl _ _).alloc (Nat.le_refl _) _)
        have hlt := hown.out.lt
        replace hE2 := Lib.hid hE2; replace hBq := Lib.hid hBq; replace hSq := Lib.hid hSq; replace hOq := Lib.hid hOq; replace q9 := Lib.hid q9; replace hof2 := Lib.hid hof2; replace hxl2 := Lib.hid hxl2; replace hone := Lib.hid hone; replace h63 := Lib.hid h63; replace hby := Lib.hid hby; replace hnews := Lib.hid hnews; replace hownA := Lib.hid hownA; replace hszq := Lib.hid hszq; replace hSA := Lib.hid hSA; replace hlt := Lib.hid hlt
        go_wp2_with fail
        go_quiet (fail)
        go_wp2_with (at_builtin; refine wpList_append_own _ rfl _ _ 74 rfl (w.heap.size + 2) 94 i94 _ 6 64 Try.underlying74 hi hz hz1 hz2 rfl six_pos _ n _ rfl (hownA.out _) ⟨wr.heap.size + 1, 0, none⟩ 1 1 (Hold.until h h.till).cells.toList rfl rfl (hnews.out _) hone.out h63.out hby.out (hszq.out _) ?_; intro v1 w9 hown9 hgrow _; obtain ⟨g, cap1, rfl⟩ := Joins.ownsRow_form hown9 (Nat.succ_pos _); replace hown9 := Lib.hid hown9; replace hgrow := Lib.hid hgrow)
        have hO9 : w9.ownsRow (w.heap.size + 2) 94 6 (.slice (some ⟨g, 0, none⟩) (n + 1) cap1) (n + 1) (flatv Hold.cells (xs ++ [Hold.until h h.till])) := by
          rw [flatv_append, flatv_one]; exact hown9.out
        have hS9 := (hSA.out _).grown hx.out hl.out hgrow.out (fun k hk => (hlt.out k hk).1) (Nat.le_refl _) (hszq.out _)
        replace hO9 := Lib.hid hO9; replace hS9 := Lib.hid hS9
        go_roundw
        case rel => exact ⟨k + 1, n + 1, xs ++ [Hold.until h h.till], _, rfl, by go_num, by omega, by omega, hS9.out, hO9.out, hxl2.out, hof2.out, hE2.out⟩
        case measure => simp [intOf]; omega
    · have hc1 : ¬ (k : Int) < x.hn := by omega
      have hE' : Ends x.now least x.hs xs := by have h := hE.out; rwa [List.take_of_length_le (by rw [hhl.out]; omega)] at h
      have hxo : ∀ y, y ∈ xs → Hold.ok wr y := fun y hy => by
        obtain ⟨h, t, hm, rfl⟩ := hof.out y hy
        obtain ⟨j, hj⟩ := List.mem_iff_getElem?.1 hm
        obtain ⟨_, _, _, _, _, ho⟩ := hS.out.xok.holds.cell j h hj
        exact ⟨ho.gang, ho.gle⟩
      have hlow := hS.out.low
      replace hE' := Lib.hid hE'; replace hxo := Lib.hid hxo; replace hlow := Lib.hid hlow
      have hown' := hown.out
      rcases Joins.ownsRow_forms hown' with ⟨rfl, h0⟩ | ⟨g, cap1, rfl⟩
      · have hx0 : xs = [] := List.length_eq_zero_iff.1 (by rw [hxl.out, h0])
        replace hown' := Lib.hid hown'; replace h0 := Lib.hid h0; replace hx0 := Lib.hid hx0
        go_wp2
        go_ret
        exact ⟨none, 0, 0, [], rfl, holds_none _, by rw [← hx0.out]; exact hE'.out, hlow.out⟩
      · have hr := rows_of_own (cells := Hold.cells) (sz := 6) (ok := Hold.ok) (fun _ => rfl) hown' hxl.out (by omega) hxo.out
        replace hown' := Lib.hid hown'; replace hr := Lib.hid hr
        go_wp2
        go_ret
        exact ⟨_, n, cap1, xs, rfl, hr.out, hE'.out, hlow.out⟩
end Go.Proofs.Ytpjajiambbobhaa

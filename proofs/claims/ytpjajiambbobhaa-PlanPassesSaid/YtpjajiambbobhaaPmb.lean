/- plan: rows in memory, a table with the holds taken, plan.Pass walked. -/
import Derived.Test.YtpjajiambbobhaaPma
import Derived.Test.YtpjajiambbobhaaGawake
import Derived.Maps.AppendAt
/- plan: rows of structs in memory; a table with the holds taken. -/
namespace Go.Proofs.Ytpjajiambbobhaa
open Go.RowKit

/-- a row of things in memory, each so many cells -/
structure RowsAt {α : Type} (cells : α → Array Value) (sz : Nat) (ok : World → α → Prop) (w : World) (ao : Option Addr) (n : Nat) (xs : List α) : Prop where
  len : xs.length = n
  max : n ≤ 9223372036854775807
  cell : ∀ i x, xs[i]? = some x → ∃ b off, ao = some ⟨b, off, none⟩ ∧ b < w.heap.size ∧ (∀ j, j < sz → w.cell? ⟨b, off + i * sz + j, none⟩ = (cells x)[j]?) ∧ ok w x
theorem RowsAt.below {α : Type} {cells : α → Array Value} {sz : Nat} {ok : World → α → Prop} {w w' : World} {ao : Option Addr} {n : Nat} {xs : List α} (h : RowsAt cells sz ok w ao n xs)
    (hb : Below w.heap.size w w') (hok : ∀ x, ok w x → ok w' x) : RowsAt cells sz ok w' ao n xs :=
  ⟨h.len, h.max, fun i x hx => by
    obtain ⟨b, off, e, hlt, hc, ho⟩ := h.cell i x hx
    exact ⟨b, off, e, Nat.lt_of_lt_of_le hlt hb.size, fun j hj => (below_cell hb hlt).trans (hc j hj), hok x ho⟩⟩
theorem RowsAt.get {α : Type} {cells : α → Array Value} {sz : Nat} {ok : World → α → Prop} {w : World} {ao : Option Addr} {n : Nat} {xs : List α} (h : RowsAt cells sz ok w ao n xs) {k : Nat} (hk : k < n) : ∃ x, xs[k]? = some x :=
  ⟨xs[k]'(by rw [h.len]; exact hk), List.getElem?_eq_getElem _⟩

structure Hold where
  go : Option Addr
  gn : Nat
  gc : Nat
  gzs : List Int
  v : V4
  till : Int
abbrev Hold.cells (h : Hold) : Array Value := #[.slice h.go h.gn h.gc, .int .i64 h.v.a, .int .i64 h.v.b, .int .i64 h.v.c, .int .i64 h.v.d, .int .i64 h.till]
def Hold.obj (h : Hold) : Obj := .cells h.cells 94 (0, 0)
structure Hold.ok (w : World) (h : Hold) : Prop where
  gang : IntsAt w h.go h.gn h.gzs
  gle : h.gn ≤ h.gc
theorem Hold.ok.below {w w' : World} {h : Hold} (ho : h.ok w) (hb : Below w.heap.size w w') : h.ok w' := ⟨ho.gang.below hb (Nat.le_refl _), ho.gle⟩
theorem hold_cells {w : World} {b : Nat} {h : Hold} (e : w.heap[b]? = some h.obj) : w.cell? ⟨b, 0, none⟩ = some (.slice h.go h.gn h.gc) ∧ w.cell? ⟨b, 1, none⟩ = some (.int .i64 h.v.a) ∧ w.cell? ⟨b, 2, none⟩ = some (.int .i64 h.v.b) ∧
    w.cell? ⟨b, 3, none⟩ = some (.int .i64 h.v.c) ∧ w.cell? ⟨b, 4, none⟩ = some (.int .i64 h.v.d) ∧ w.cell? ⟨b, 5, none⟩ = some (.int .i64 h.till) :=
  ⟨blk_cell e 0, blk_cell e 1, blk_cell e 2, blk_cell e 3, blk_cell e 4, blk_cell e 5⟩
abbrev HoldsAt := RowsAt Hold.cells 6 Hold.ok
theorem off_of {w w2 : World} {ao : Option Addr} {n : Nat} {zs : List Int} {ps : List Nd} (h : IntsAt w ao n zs) (hs : w.heap.size ≤ w2.heap.size) (hm : ∀ b, Mine ps b → w2.heap.size ≤ b) : 0 < n → Off ao (Mine ps) := fun h0 b off e hb => by
  obtain ⟨b', off', e', hlt, _⟩ := h.cell 0 h0
  rw [e] at e'; cases e'
  have := hm b hb
  omega

/-- one behind the other -/
def Chain {α β : Type} (R : α → β → β → Prop) : List α → β → β → Prop
  | [], p, q => q = p
  | x :: xs, p, q => ∃ m, R x p m ∧ Chain R xs m q
theorem chain_app {α β : Type} {R : α → β → β → Prop} {xs ys : List α} {p q : β} : Chain R (xs ++ ys) p q ↔ ∃ m, Chain R xs p m ∧ Chain R ys m q := by
  induction xs generalizing p with
  | nil => exact ⟨fun h => ⟨p, rfl, h⟩, fun ⟨m, e, h⟩ => by cases e; exact h⟩
  | cons x xs ih =>
    constructor
    · rintro ⟨m, h1, h2⟩
      obtain ⟨m2, h3, h4⟩ := ih.1 h2
      exact ⟨m2, ⟨m, h1, h3⟩, h4⟩
    · rintro ⟨m2, ⟨m, h1, h3⟩, h4⟩
      exact ⟨m, h1, ih.2 ⟨m2, h3, h4⟩⟩
theorem chain_snoc {α β : Type} {R : α → β → β → Prop} {xs : List α} {x : α} {p m q : β} (h : Chain R xs p m) (hx : R x m q) : Chain R (xs ++ [x]) p q := chain_app.2 ⟨m, h, q, hx, rfl⟩
theorem take_snoc {α : Type} {xs : List α} {k : Nat} {x : α} (h : xs[k]? = some x) : xs.take (k + 1) = xs.take k ++ [x] := by
  rw [List.take_add_one, h]; rfl

/-- a pool's nodes: whole as they were, sound -/
structure Like (ps q : List Nd) : Prop where
  len : q.length = ps.length
  whole : ∀ i, i < ps.length → (nd q i).whole = (nd ps i).whole
  inv : ∀ i, i < q.length → Inv (nd q i).whole (nd q i).l
theorem Like.trans {ps q r : List Nd} (h : Like ps q) (k : Like q r) : Like ps r := ⟨k.len.trans h.len, fun i hi => (k.whole i (by rw [h.len]; exact hi)).trans (h.whole i hi), k.inv⟩
theorem like_of {w w' : World} {gb gs cap : Nat} {po : Option Addr} {ps q : List Nd} (h : Kin w ps q) (hp : Pool w' gb gs po cap q) : Like ps q := ⟨h.len, h.whole, hp.inv⟩

def TookL (ps : List Nd) (zs : List Int) (fr tt : Int) (v : V4) (r : Int) (q : List Nd) : Prop := TookG ps zs fr tt v r q ∧ Like ps q
def GaveL (ps : List Nd) (zs : List Int) (fr tt : Int) (v : V4) (r : Int) (q : List Nd) : Prop := GaveG ps zs fr tt v r q ∧ Like ps q
def holdEnd (now : Int) (h : Hold) : Int := max h.till (now + 1)
def HoldTook (now : Int) (h : Hold) (ps q : List Nd) : Prop := TookL ps h.gzs now (holdEnd now h) h.v 0 q
structure LayOk (vs : List V4) (un : Nat) (now : Int) : Prop where
  few : vs.length ≤ 16
  right : ∀ i, i < vs.length → (vv vs i).right = true
  up : un = vs.length
  lo : 0 ≤ now
  hi : now < 1099511627776
structure Fresh (vs : List V4) (ps : List Nd) : Prop where
  len : ps.length = vs.length
  node : ∀ i, i < vs.length → (nd ps i).whole = vv vs i ∧ (nd ps i).l = [⟨0, vv vs i⟩]
  inv : ∀ i, i < ps.length → Inv (nd ps i).whole (nd ps i).l
def LayRel (vs : List V4) (un : Nat) (now : Int) (hs : List Hold) (r : Int) (q : List Nd) : Prop :=
  (¬ LayOk vs un now ∧ r = 1) ∨ (LayOk vs un now ∧ ∃ ps0, Fresh vs ps0 ∧ ((r = 0 ∧ Chain (HoldTook now) hs ps0 q) ∨
    (r ≠ 0 ∧ ∃ k h m q', hs[k]? = some h ∧ Chain (HoldTook now) (hs.take k) ps0 m ∧ TookL m h.gzs now (holdEnd now h) h.v r q')))
def LayPost (vs : List V4) (uo : Option Addr) (un uc : Nat) (bs : List Bool) (now : Int) (hs : List Hold) (w : World) (e : Ending) (w' : World) : Prop :=
  Below w.heap.size w w' ∧ ((∃ r, r ≠ 0 ∧ e = .returned (.tuple #[.pointer none, .int .i64 r]) ∧ LayRel vs un now hs r []) ∨
    (∃ tb gb gs cap po q, e = .returned (.tuple #[.pointer (some ⟨tb, 0, none⟩), .int .i64 0]) ∧ Pool w' gb gs po cap q ∧ Tab w' tb gb uo un uc bs now ∧ (∀ b, Mine q b → w.heap.size ≤ b) ∧ LayRel vs un now hs 0 q))

structure LaW (w : World) (tb gb gs cap : Nat) (po uo : Option Addr) (un uc : Nat) (bs : List Bool) (now : Int) (q : List Nd) (wr : World) : Prop where
  low : Below w.heap.size w wr
  pool : Pool wr gb gs po cap q
  tab : Tab wr tb gb uo un uc bs now
  mine : ∀ b, Mine q b → w.heap.size ≤ b
theorem LaW.below {w : World} {tb gb gs cap : Nat} {po uo : Option Addr} {un uc : Nat} {bs : List Bool} {now : Int} {q : List Nd} {wr w' : World} (h : LaW w tb gb gs cap po uo un uc bs now q wr) (hb : Below wr.heap.size wr w') : LaW w tb gb gs cap po uo un uc bs now q w' :=
  ⟨h.low.trans (hb.mono h.low.size), h.pool.below hb, h.tab.below hb, h.mine⟩
theorem LaW.mod {w : World} {tb gb gs cap : Nat} {po uo : Option Addr} {un uc : Nat} {bs : List Bool} {now : Int} {q q' : List Nd} {wr w' : World} (h : LaW w tb gb gs cap po uo un uc bs now q wr) (hub : 0 < un → ∀ b off, uo = some ⟨b, off, none⟩ → b < w.heap.size) (hp : Pool w' gb gs po cap q') (hk : Kin wr q q') (hm : Mod (Mine q) wr w') : LaW w tb gb gs cap po uo un uc bs now q' w' :=
  ⟨below_mod h.low hm h.mine h.low.size, hp, ⟨(hm.block _ (blk_lt h.tab.head) (not_mineT h.pool h.tab.head (by decide) (by decide))).trans h.tab.head, h.tab.up.len, h.tab.up.max, fun i hi => by
    obtain ⟨b, off, e, hlt, hc⟩ := h.tab.up.cell i hi
    have hu := hub (by omega) b off e
    exact ⟨b, off, e, Nat.lt_of_lt_of_le hlt hm.size, (World.cell?_of_block (a := ⟨b, off + i, none⟩) (w := wr) (hm.block b hlt (fun c => by have := h.mine b c; omega))).trans hc⟩⟩,
   fun b hb => by
    rcases hk.mine hb with c | c
    · exact h.mine b c
    · exact Nat.le_trans h.low.size c⟩
theorem BoolsAt.lt {w : World} {ao : Option Addr} {n : Nat} {bs : List Bool} (h : BoolsAt w ao n bs) (h0 : 0 < n) : ∀ b off, ao = some ⟨b, off, none⟩ → b < w.heap.size := fun b off e => by
  obtain ⟨b', off', e', hlt, _⟩ := h.cell 0 h0
  rw [e] at e'; cases e'; exact hlt

set_option maxRecDepth 100000 in
set_option maxHeartbeats 6400000 in
theorem lay_any (vo uo ho : Option Addr) (n c un uc m mc : Nat) (vs : List V4) (bs : List Bool) (now : Int) (hs : List Hold) (w : World) (hv : VecsAt w vo n vs) (hu : BoolsAt w uo un bs) (hh : HoldsAt w ho m hs) :
    Calls Try.prog 81 #[.slice vo n c, .slice uo un uc, .int .i64 now, .slice ho m mc] w (LayPost vs uo un uc bs now hs w) := by
  have hnl := hv.len
  have hmax := hh.max
  have hunx := hu.max
  have hnx := hv.max
  have hul : 0 < un → ∀ b off, uo = some ⟨b, off, none⟩ → b < w.heap.size := fun h0 => hu.lt h0
  replace hv := Lib.hid hv; replace hu := Lib.hid hu; replace hh := Lib.hid hh; replace hnl := Lib.hid hnl; replace hul := Lib.hid hul
  go_enter Try.func81, Try.ntmps81
  go_wp2_with fail
  refine (newg_any vo n c vs w hv.out).mono ?_
  rintro e w1 (⟨hno, rfl, hb1⟩ | ⟨hn16, hrt, gb, gs, po, cap, ps, rfl, hgb, hp1, hlen1, hst1, hmine1, hb1⟩)
  · have hB1 : Below w.heap.size w (w1.alloc (.cells #[.pointer none, .slice uo un uc, .int .i64 now] 127 (0, 0))) := hb1.alloc hb1.size _
    have hrel : LayRel vs un now hs 1 [] := .inl ⟨fun h => hno ⟨by rw [← hnl.out]; exact h.few, fun i hi => h.right i (by rw [hnl.out]; exact hi)⟩, rfl⟩
    replace hno := Lib.hid hno; replace hb1 := Lib.hid hb1; replace hB1 := Lib.hid hB1; replace hrel := Lib.hid hrel
    go_wp2
    go_ret2
    exact ⟨hB1.out, .inl ⟨1, by decide, rfl, hrel.out⟩⟩
  have hB1 : Below w.heap.size w (w1.alloc (.cells #[.pointer (some ⟨gb, 0, none⟩), .slice uo un uc, .int .i64 now] 127 (0, 0))) := hb1.alloc hb1.size _
  have bad : Hid (¬ LayOk vs un now → LayPost vs uo un uc bs now hs w (.returned (.tuple #[.pointer none, .int .i64 1])) (w1.alloc (.cells #[.pointer (some ⟨gb, 0, none⟩), .slice uo un uc, .int .i64 now] 127 (0, 0)))) :=
    fun h => ⟨hB1, .inl ⟨1, by decide, rfl, .inl ⟨h, rfl⟩⟩⟩
  by_cases q1 : un = n
  rotate_left
  · have d1 : ((un : Int) != (n : Int)) = true := by simp; omega
    have hbad := bad.out (fun h => q1 (h.up.trans hnl.out))
    replace q1 := Lib.hid q1; replace hbad := Lib.hid hbad; replace hb1 := Lib.hid hb1; replace hB1 := Lib.hid hB1; replace hp1 := Lib.hid hp1; replace hst1 := Lib.hid hst1; replace hmine1 := Lib.hid hmine1; replace hrt := Lib.hid hrt; replace hlen1 := Lib.hid hlen1
    go_wp2
    go_ret2
    exact hbad.out
  have d1 : ((un : Int) != (n : Int)) = false := by simp; omega
  by_cases q2 : now < 0
  · have d2 : decide (now < 0) = true := by simpa using q2
    have hbad := bad.out (fun h => by have := h.lo; omega)
    replace q1 := Lib.hid q1; replace q2 := Lib.hid q2; replace hbad := Lib.hid hbad; replace hb1 := Lib.hid hb1; replace hB1 := Lib.hid hB1; replace hp1 := Lib.hid hp1; replace hst1 := Lib.hid hst1; replace hmine1 := Lib.hid hmine1; replace hrt := Lib.hid hrt; replace hlen1 := Lib.hid hlen1
    go_wp2
    go_ret2
    exact hbad.out
  have d2 : decide (now < 0) = false := by simpa using q2
  by_cases q3 : 1099511627776 ≤ now
  · have d3 : decide (1099511627776 ≤ now) = true := by simpa using q3
    have hbad := bad.out (fun h => by have := h.hi; omega)
    replace q1 := Lib.hid q1; replace q2 := Lib.hid q2; replace q3 := Lib.hid q3; replace hbad := Lib.hid hbad; replace hb1 := Lib.hid hb1; replace hB1 := Lib.hid hB1; replace hp1 := Lib.hid hp1; replace hst1 := Lib.hid hst1; replace hmine1 := Lib.hid hmine1; replace hrt := Lib.hid hrt; replace hlen1 := Lib.hid hlen1
    go_wp2
    go_ret2
    exact hbad.out
  have d3 : decide (1099511627776 ≤ now) = false := by simpa using q3
  have hok : LayOk vs un now := ⟨by rw [hnl.out]; exact hn16, fun i hi => hrt i (by rw [← hnl.out]; exact hi), q1.trans hnl.out.symm, by omega, by omega⟩
  have hfr : Fresh vs ps := ⟨hlen1.trans hnl.out.symm, fun i hi => hst1 i (by rw [← hnl.out]; exact hi), hp1.inv⟩
  have hL0 : LaW w w1.heap.size gb gs cap po uo un uc bs now ps (w1.alloc (.cells #[.pointer (some ⟨gb, 0, none⟩), .slice uo un uc, .int .i64 now] 127 (0, 0))) :=
    ⟨hB1, hp1.below ((Below.refl _ _).alloc (Nat.le_refl _) _), ⟨blk_new _ _, hu.out.below hB1 (Nat.le_refl _)⟩, hmine1⟩
  have ew : IntKind.i64.wrap (now + 1) = now + 1 := IntWalk.i64_in _ (by omega)
  clear hgb bad
  replace q1 := Lib.hid q1; replace q2 := Lib.hid q2; replace q3 := Lib.hid q3; replace hb1 := Lib.hid hb1; replace hB1 := Lib.hid hB1; replace hp1 := Lib.hid hp1; replace hst1 := Lib.hid hst1; replace hmine1 := Lib.hid hmine1; replace hrt := Lib.hid hrt; replace hlen1 := Lib.hid hlen1
  replace hok := Lib.hid hok; replace hfr := Lib.hid hfr; replace hL0 := Lib.hid hL0
  go_wp2
  go_loopw [12, 13, 42] (fun _ _ i wr => ∃ (k : Nat) (q : List Nd), i = .int .i64 k ∧ k ≤ m ∧ Hid (LaW w w1.heap.size gb gs cap po uo un uc bs now q wr) ∧ Hid (Chain (HoldTook now) (hs.take k) ps q)) (fun _ _ i _ => m - (intOf i).toNat)
  case atStart => exact ⟨0, ps, rfl, Nat.zero_le _, hL0.out, rfl⟩
  case round =>
    obtain ⟨k, q, rfl, hk, hL, hC⟩ := hrel
    by_cases hc : k < m
    · have hc1 : (k : Int) < m := by omega
      have hk0 : (0 : Int) ≤ (k : Int) := by omega
      obtain ⟨x, hx⟩ := hh.out.get hc
      obtain ⟨b, off, rfl, hb, a0, hxo⟩ := hh.out.cell k x hx
      have c0 := (below_cell hL.out.low hb).trans (a0 0 (by omega)); have c1 := (below_cell hL.out.low hb).trans (a0 1 (by omega)); have c2 := (below_cell hL.out.low hb).trans (a0 2 (by omega))
      have c3 := (below_cell hL.out.low hb).trans (a0 3 (by omega)); have c4 := (below_cell hL.out.low hb).trans (a0 4 (by omega)); have c5 := (below_cell hL.out.low hb).trans (a0 5 (by omega))
      simp at c0 c1 c2 c3 c4 c5
      clear a0
      obtain ⟨T, hT⟩ : ∃ T, T = holdEnd now x := ⟨_, rfl⟩
      have hmx : (if x.till < now + 1 then now + 1 else x.till) = T := by rw [hT]; unfold holdEnd; omega
      have hLd : LaW w w1.heap.size gb gs cap po uo un uc bs now q (wr.alloc x.obj) := hL.out.below ((Below.refl _ _).alloc (Nat.le_refl _) _)
      obtain ⟨WA, hWA⟩ : ∃ WA, WA = wr.alloc x.obj := ⟨_, rfl⟩
      rw [← hWA] at hLd
      have hbox : WA.heap[wr.heap.size]? = some x.obj := by rw [hWA]; exact blk_new _ _
      have htk : ∀ W', Below WA.heap.size WA W' → Calls Try.prog 35 #[.pointer (some ⟨gb, 0, none⟩), .slice x.go x.gn x.gc, .int .i64 now, .int .i64 T, x.v.val] W' (GPost (TookG q x.gzs now T x.v) gb gs cap po q W') :=
        fun W' h => gtake_any gb gs cap po q x.go x.gn x.gc x.gzs now T x.v W' (hLd.pool.below h) (hxo.gang.below (hLd.low.trans (h.mono hLd.low.size)) (Nat.le_refl _)) (off_of hxo.gang (Nat.le_refl _) hLd.mine) hxo.gle
      have t0 := blk_cell hLd.tab.head 0
      simp at t0
      have lt := blk_lt hLd.tab.head
      obtain ⟨y0, y1, y2, y3, y4, y5⟩ := hold_cells hbox
      have lx := blk_lt hbox
      have htn : ¬ Mine q w1.heap.size := not_mineT hLd.pool hLd.tab.head (by decide) (by decide)
      have hxn : ¬ Mine q wr.heap.size := not_mineT hLd.pool hbox (by decide) (by decide)
      have hBd : Below WA.heap.size WA WA.drew := (Below.refl _ _).drew
      replace hx := Lib.hid hx; replace hxo := Lib.hid hxo; replace hT := Lib.hid hT; replace hLd := Lib.hid hLd; replace hbox := Lib.hid hbox; replace htk := Lib.hid htk; replace htn := Lib.hid htn; replace hxn := Lib.hid hxn; replace hBd := Lib.hid hBd
      have hSK : Hid (∀ w' : World, (∀ b, b < WA.heap.size → ¬ Mine q b → ∀ o, w'.cell? ⟨b, o, none⟩ = WA.cell? ⟨b, o, none⟩) → w'.cell? ⟨w1.heap.size, 0, none⟩ = some (.pointer (some ⟨gb, 0, none⟩)) ∧ w'.cell? ⟨wr.heap.size, 0, none⟩ = some (.slice x.go x.gn x.gc) ∧ w'.cell? ⟨wr.heap.size, 1, none⟩ = some (.int .i64 x.v.a) ∧ w'.cell? ⟨wr.heap.size, 2, none⟩ = some (.int .i64 x.v.b) ∧ w'.cell? ⟨wr.heap.size, 3, none⟩ = some (.int .i64 x.v.c) ∧ w'.cell? ⟨wr.heap.size, 4, none⟩ = some (.int .i64 x.v.d) ∧ w'.cell? ⟨wr.heap.size, 5, none⟩ = some (.int .i64 x.till)) :=
        fun w' h => ⟨(h _ lt htn.out _).trans t0, (h _ lx hxn.out _).trans y0, (h _ lx hxn.out _).trans y1, (h _ lx hxn.out _).trans y2, (h _ lx hxn.out _).trans y3, (h _ lx hxn.out _).trans y4, (h _ lx hxn.out _).trans y5⟩
      go_wp2_with fail
      have hWA' : wr.alloc (.cells x.cells 94 (0, 0)) = WA := hWA.symm
      try rw [hWA']
      replace hWA := Lib.hid hWA; replace hWA' := Lib.hid hWA'
      clear c0 c1 c2 c3 c4 c5
      go_region_held3 (fun w' => w'.cell? ⟨w1.heap.size, 0, none⟩ = some (.pointer (some ⟨gb, 0, none⟩)) ∧ w'.cell? ⟨wr.heap.size, 0, none⟩ = some (.slice x.go x.gn x.gc) ∧ w'.cell? ⟨wr.heap.size, 1, none⟩ = some (.int .i64 x.v.a) ∧ w'.cell? ⟨wr.heap.size, 2, none⟩ = some (.int .i64 x.v.b) ∧ w'.cell? ⟨wr.heap.size, 3, none⟩ = some (.int .i64 x.v.c) ∧ w'.cell? ⟨wr.heap.size, 4, none⟩ = some (.int .i64 x.v.d) ∧ w'.cell? ⟨wr.heap.size, 5, none⟩ = some (.int .i64 x.till))
        (first
          | (go_keep; done)
          | with_reducible exact hSK.out _ hm8.out)
        (first
          | (go_at_call 35
             refine (htk.out _ hBd.out).mono ?_
             rintro e w8 ⟨r8, ps', rfl, hTk, hp8, hk8, hm8'⟩
             have hm8 : Hid (∀ b, b < WA.heap.size → ¬ Mine q b → ∀ o, w8.cell? ⟨b, o, none⟩ = WA.cell? ⟨b, o, none⟩) := fun b hb hn o => World.cell?_of_block (a := ⟨b, o, none⟩) (w := WA) (hm8'.block b hb hn)
             replace hTk := Lib.hid hTk; replace hp8 := Lib.hid hp8; replace hk8 := Lib.hid hk8; replace hm8' := Lib.hid hm8'))
      have hL8 : LaW w w1.heap.size gb gs cap po uo un uc bs now ps' w8 := (hLd.out.below hBd.out).mod hul.out hp8.out hk8.out hm8'.out
      have hTL : TookL q x.gzs now (holdEnd now x) x.v r8 ps' := ⟨by rw [← hT.out]; exact hTk.out, like_of hk8.out hp8.out⟩
      by_cases q5 : r8 = 0
      · have d5 : (r8 != 0) = false := by simpa using q5
        have hC2 : Chain (HoldTook now) (hs.take (k + 1)) ps ps' := by
          rw [take_snoc hx.out]
          exact chain_snoc hC.out (by rw [q5] at hTL; exact hTL)
        replace q5 := Lib.hid q5; replace hTL := Lib.hid hTL; replace hL8 := Lib.hid hL8; replace hC2 := Lib.hid hC2
        clear t0 lt y0 y1 y2 y3 y4 y5 lx
        go_wp2
        go_roundw
        case rel => exact ⟨k + 1, ps', by go_num, by omega, hL8.out, hC2.out⟩
        case measure => simp [intOf]; omega
      · have d5 : (r8 != 0) = true := by simpa using q5
        have hrel : LayRel vs un now hs r8 [] := .inr ⟨hok.out, ps, hfr.out, .inr ⟨q5, k, x, q, ps', hx.out, hC.out, hTL⟩⟩
        have hlow := hL8.low
        have q5' := Lib.hid q5
        clear q5
        replace hTL := Lib.hid hTL; replace hL8 := Lib.hid hL8; replace hrel := Lib.hid hrel; replace hlow := Lib.hid hlow
        clear t0 lt y0 y1 y2 y3 y4 y5 lx
        go_wp2
        go_ret2
        exact ⟨hlow.out, .inl ⟨r8, q5'.out, rfl, hrel.out⟩⟩
    · have hc1 : ¬ (k : Int) < m := by omega
      have hrel : LayRel vs un now hs 0 q := .inr ⟨hok.out, ps, hfr.out, .inl ⟨rfl, by have h := hC.out; rwa [List.take_of_length_le (by rw [hh.out.len]; omega)] at h⟩⟩
      replace hrel := Lib.hid hrel
      go_wp2
      go_ret2
      exact ⟨hL.out.low, .inr ⟨w1.heap.size, gb, gs, cap, po, q, rfl, hL.out.pool, hL.out.tab, hL.out.mine, hrel.out⟩⟩
end Go.Proofs.Ytpjajiambbobhaa

/- plan.Pass: what it says, and what its loops keep. -/
namespace Go.Proofs.Ytpjajiambbobhaa
open Go.RowKit

theorem Ask.ok.below' {w w' : World} {a : Ask} (h : a.ok w) (hb : Below w.heap.size w w') : a.ok w' := h.below hb (Nat.le_refl _)
abbrev AsksAt := RowsAt Ask.cells 10 (fun w a => Ask.ok w a)
structure Slot where
  id : Int
  start : Int
  go : Option Addr
  gn : Nat
  gc : Nat
  gzs : List Int
abbrev Slot.cells (s : Slot) : Array Value := #[.int .i64 s.id, .int .i64 s.start, .slice s.go s.gn s.gc]
abbrev Slot.val (s : Slot) : Value := .agg #[.int .i64 s.id, .int .i64 s.start, .slice s.go s.gn s.gc]
def Slot.obj (s : Slot) : Obj := .cells s.cells 88 (0, 0)
structure Slot.ok (w : World) (s : Slot) : Prop where
  gang : IntsAt w s.go s.gn s.gzs
  gle : s.gn ≤ s.gc
theorem Slot.ok.below {w w' : World} {s : Slot} (h : s.ok w) (hb : Below w.heap.size w w') : s.ok w' := ⟨h.gang.below hb (Nat.le_refl _), h.gle⟩
abbrev SlotsAt := RowsAt Slot.cells 3 (fun w s => Slot.ok w s)

def from_ (now : Int) (a : Ask) : Int := max a.start now
/-- whether what was promised is kept -/
def KeptR (now : Int) (bs : List Bool) (x : Ask × Bool) (ps q : List Nd) : Prop :=
  (x.1.start < 0 ∧ x.2 = false ∧ q = ps) ∨
  (0 ≤ x.1.start ∧ ¬ TakePre bs now x.1 (from_ now x.1) x.1.gzs ∧ x.2 = false ∧ q = ps) ∨
  (0 ≤ x.1.start ∧ TakePre bs now x.1 (from_ now x.1) x.1.gzs ∧ ∃ r, TookL ps x.1.gzs (from_ now x.1) (endT (from_ now x.1) x.1.ticks) x.1.v r q ∧ (x.2 = true ↔ r = 0))
/-- a slot is found, and taken -/
def FoundR (now : Int) (bs : List Bool) (a : Ask) (st : Int) (zs : List Int) (ps q : List Nd) : Prop :=
  (a.can = false ∧ st = -1 ∧ zs = [] ∧ q = ps) ∨
  (a.can = true ∧ ∃ t xs is, FindRel ps (ints (plc bs a.pzs)) a.nodes a.v a.ticks now t xs is ∧ (is = false → st = -1 ∧ zs = [] ∧ q = ps) ∧ (is = true → st = t ∧ zs = ints xs ∧ ∃ r, TookL ps (ints xs) t (t + a.ticks) a.v r q))
def RoundR (now : Int) (bs : List Bool) (x : (Ask × Bool) × Slot) (ps q : List Nd) : Prop :=
  ∃ m, ((x.1.2 = false ∧ m = ps) ∨ (x.1.2 = true ∧ ∃ r, GaveL ps x.1.1.gzs (from_ now x.1.1) (from_ now x.1.1 + x.1.1.ticks) x.1.1.v r m)) ∧ x.2.id = x.1.1.id ∧ FoundR now bs x.1.1 x.2.start x.2.gzs m q
structure PassRel (vs : List V4) (now : Int) (bs : List Bool) (hs : List Hold) (asks : List Ask) (slots : List Slot) : Prop where
  go : ∃ ps q1 q2 st rd, LayRel vs bs.length now hs 0 ps ∧ Chain (KeptR now bs) st ps q1 ∧ st.map Prod.fst = asks ∧ Chain (RoundR now bs) rd q1 q2 ∧ rd.map Prod.fst = st ∧ rd.map Prod.snd = slots
def PassPost (vs : List V4) (now : Int) (bs : List Bool) (hs : List Hold) (asks : List Ask) (w : World) (e : Ending) (w' : World) : Prop :=
  Below w.heap.size w w' ∧ ((∃ r, r ≠ 0 ∧ e = .returned (.tuple #[.slice none 0 0, .int .i64 r]) ∧ LayRel vs bs.length now hs r []) ∨
    (∃ so sc slots, e = .returned (.tuple #[.slice so asks.length sc, .int .i64 0]) ∧ PassRel vs now bs hs asks slots ∧ SlotsAt w' so asks.length slots ∧ asks.length ≤ sc ∧ (∀ b off, so = some ⟨b, off, none⟩ → w.heap.size ≤ b) ∧ ∀ s, s ∈ slots → ∀ b off, s.go = some ⟨b, off, none⟩ → w.heap.size ≤ b))

theorem chain_mem {α β : Type} {R : α → β → β → Prop} {xs : List α} {p q : β} (h : Chain R xs p q) {x : α} (hx : x ∈ xs) : ∃ p' q', R x p' q' := by
  induction xs generalizing p with
  | nil => cases hx
  | cons y ys ih =>
    obtain ⟨m, h1, h2⟩ := h
    rcases List.mem_cons.1 hx with rfl | hx
    · exact ⟨p, m, h1⟩
    · exact ih h2 hx
theorem endT_fin {fr ticks : Int} {v : V4} (h : spanL fr (endT fr ticks) v = true) : endT fr ticks = fr + ticks ∧ 0 ≤ fr ∧ fr < fr + ticks ∧ fr + ticks ≤ 1099511627776 := by
  obtain ⟨b1, b2, b3, b4⟩ := spanL_true h
  unfold endT at *
  split at b3 <;> simp_all <;> omega
theorem kept_span {now : Int} {bs : List Bool} {a : Ask} {ps q : List Nd} (h : KeptR now bs (a, true) ps q) : TakePre bs now a (from_ now a) a.gzs ∧ Gang ps.length a.gzs ∧ spanL (from_ now a) (from_ now a + a.ticks) a.v = true ∧
    TookL ps a.gzs (from_ now a) (from_ now a + a.ticks) a.v 0 q := by
  rcases h with ⟨_, h, _⟩ | ⟨_, _, h, _⟩ | ⟨_, h1, r, h2, h3⟩
  · cases h
  · cases h
  · have hr := h3.1 rfl
    subst hr
    have h2' := h2
    rcases h2.1 with ⟨_, c, _⟩ | ⟨_, _, _, c, _⟩ | ⟨c1, c2, _⟩
    · cases c
    · cases c
    · have e := (endT_fin c2).1
      rw [e] at c2 h2'
      exact ⟨h1, c1, c2, h2'⟩

/-- things laid one behind the other -/
def flatv {α : Type} (cells : α → Array Value) (xs : List α) : List Value := xs.flatMap fun x => (cells x).toList
theorem flatv_append {α : Type} (cells : α → Array Value) (xs ys : List α) : flatv cells (xs ++ ys) = flatv cells xs ++ flatv cells ys := by simp [flatv]
theorem flatv_one {α : Type} (cells : α → Array Value) (x : α) : flatv cells [x] = (cells x).toList := by simp [flatv]
theorem flatv_get {α : Type} {cells : α → Array Value} {sz : Nat} (hsz : ∀ x, (cells x).size = sz) (xs : List α) {i j : Nat} {x : α} (hx : xs[i]? = some x) (hj : j < sz) : (flatv cells xs)[i * sz + j]? = (cells x)[j]? := by
  induction xs generalizing i with
  | nil => simp at hx
  | cons y ys ih =>
    have hy := hsz y
    rw [show flatv cells (y :: ys) = (cells y).toList ++ flatv cells ys from by simp [flatv]]
    cases i with
    | zero =>
      have e : x = y := by simpa using hx.symm
      subst e
      rw [List.getElem?_append_left (by simp; omega)]
      simp
    | succ i =>
      have hx' : ys[i]? = some x := by simpa using hx
      rw [List.getElem?_append_right (by simp [hy, Nat.add_mul]; omega)]
      have := ih hx'
      rw [show (i + 1) * sz + j - (cells y).toList.length = i * sz + j by simp [hy, Nat.add_mul]; omega, this]
theorem rows_of_own {α : Type} {cells : α → Array Value} {sz : Nat} (hsz : ∀ x, (cells x).size = sz) {ok : World → α → Prop} {w : World} {base g cap : Nat} {T : TypeId} {xs : List α} {n : Nat} (h : w.ownsRow base T sz (.slice (some ⟨g, 0, none⟩) n cap) n (flatv cells xs)) (hn : xs.length = n)
    (hmax : n ≤ 9223372036854775807) (ho : ∀ x, x ∈ xs → ok w x) : RowsAt cells sz ok w (some ⟨g, 0, none⟩) n xs := by
  refine ⟨hn, hmax, fun i x hx => ?_⟩
  have hi := (List.getElem?_eq_some_iff.1 hx).1
  refine ⟨g, 0, rfl, (h.lt g rfl).2, fun j hj => ?_, ho x (List.mem_of_getElem? hx)⟩
  rw [Nat.zero_add, World.ownsRow.cellAt h (i * sz + j) (by
    have : (i + 1) * sz ≤ n * sz := Nat.mul_le_mul_right _ (by omega)
    rw [Nat.add_mul] at this
    omega), flatv_get hsz xs hx hj]

theorem info88 : (Try.prog.info? 88).map (fun i => (i.zero, i.size, i.bytes)) = some (some (.agg #[.int .i64 0, .int .i64 0, .slice none 0 0]), 3, 40) := by kernel_rfl
theorem info4 : (Try.prog.info? 4).map (fun i => (i.zero, i.size, i.bytes)) = some (some (.bool false), 1, 1) := by kernel_rfl
theorem made_bools (n : Nat) : madeCells (Value.bool false).cells n = (List.replicate n (.bool false)).toArray := by
  apply Array.toList_inj.1
  apply List.ext_getElem?
  intro j
  by_cases hj : j < n
  · simp [madeCells, Value.cells, hj, Nat.mod_one]
  · simp [madeCells, Value.cells, hj]
theorem make_bools (n : Nat) (hn : n ≤ 1000000) : ∀ w : World, (Instr.makeSlice 73 (.int .i64 (n : Int)) (.int .i64 (n : Int))).run Try.prog w = .ok (.slice (some ⟨w.heap.size, 0, none⟩) n n) (w.alloc (.cells (Array.replicate n (.bool false)) 4 (0, 0))) := by
  intro w
  obtain ⟨i, hi, hz, h1, h2⟩ := info_parts info4
  have := run_make (P := Try.prog) w 73 4 i _ Try.underlying73 hi hz .i64 .i64 n n (by omega) (by omega) (by rw [h2]; omega) (by omega)
  rw [this]
  simp only [Int.toNat_natCast, h1, Nat.mul_one]
  rw [made_bools, List.toArray_replicate]
theorem make_slots (n : Nat) (hn : n ≤ 1000000) : ∀ w : World, (Instr.makeSlice 79 (.int .i64 0) (.int .i64 (n : Int))).run Try.prog w = .ok (.slice (some ⟨w.heap.size, 0, none⟩) 0 n) (w.alloc (.cells (madeCells (Value.agg #[.int .i64 0, .int .i64 0, .slice none 0 0]).cells (n * 3)) 88 (0, 0))) := by
  intro w
  obtain ⟨i, hi, hz, h1, h2⟩ := info_parts info88
  have := run_make (P := Try.prog) w 79 88 i _ Try.underlying79 hi hz .i64 .i64 0 n (by omega) (by omega) (by rw [h2]; omega) (by omega)
  rw [this]
  simp only [Int.toNat_natCast, Int.toNat_zero, h1]

/-- what stands in the loops -/
structure PaW (w : World) (tb gb gs cap : Nat) (po uo : Option Addr) (un uc : Nat) (bs : List Bool) (now : Int) (q : List Nd) (kb : Nat) (ks : List Value) (wr : World) : Prop where
  la : LaW w tb gb gs cap po uo un uc bs now q wr
  kept : wr.heap[kb]? = some (.cells ks.toArray 4 (0, 0))
  kw : w.heap.size ≤ kb
theorem PaW.below {w : World} {tb gb gs cap : Nat} {po uo : Option Addr} {un uc : Nat} {bs : List Bool} {now : Int} {q : List Nd} {kb : Nat} {ks : List Value} {wr w' : World} (h : PaW w tb gb gs cap po uo un uc bs now q kb ks wr) (hb : Below wr.heap.size wr w') : PaW w tb gb gs cap po uo un uc bs now q kb ks w' :=
  ⟨h.la.below hb, blk_below hb h.kept (blk_lt h.kept), h.kw⟩
theorem PaW.mod {w : World} {tb gb gs cap : Nat} {po uo : Option Addr} {un uc : Nat} {bs : List Bool} {now : Int} {q q' : List Nd} {kb : Nat} {ks : List Value} {wr w' : World} (h : PaW w tb gb gs cap po uo un uc bs now q kb ks wr) (hub : 0 < un → ∀ b off, uo = some ⟨b, off, none⟩ → b < w.heap.size) (hp : Pool w' gb gs po cap q') (hk : Kin wr q q') (hm : Mod (Mine q) wr w') : PaW w tb gb gs cap po uo un uc bs now q' kb ks w' :=
  ⟨h.la.mod hub hp hk hm, (hm.block _ (blk_lt h.kept) (not_mineT h.la.pool h.kept (by decide) (by decide))).trans h.kept, h.kw⟩
/-- one more is told -/
theorem LaW.setOther {w : World} {tb gb gs cap : Nat} {po uo : Option Addr} {un uc : Nat} {bs : List Bool} {now : Int} {q : List Nd} {wr : World} {b o : Nat} {x : Array Value} {T : TypeId} {v : Value} (h : LaW w tb gb gs cap po uo un uc bs now q wr) (hb : wr.heap[b]? = some (.cells x T (0, 0)))
    (h1 : T ≠ 102) (h2 : T ≠ 43) (h3 : T ≠ 111) (h4 : T ≠ 127) (hw : w.heap.size ≤ b) (hub : 0 < un → ∀ b off, uo = some ⟨b, off, none⟩ → b < w.heap.size) (hptr : ∀ (i : Nat) (u : Value), x[i]? = some u → ∀ p : Addr, u ≠ Value.pointer (some p)) :
    LaW w tb gb gs cap po uo un uc bs now q (wr.setCell ⟨b, o, none⟩ v) := by
  have hne : ∀ c, c ≠ b → (wr.setCell ⟨b, o, none⟩ v).heap[c]? = wr.heap[c]? := fun c hc => Below.heap_setCell _ _ _ _ hc
  have hm := not_mineT h.pool hb h1 h2
  have hp := h.pool
  have hgb : gb ≠ b := fun e => by have := hp.head; rw [e, hb] at this; simp at this; exact h3 this.2
  have htb : tb ≠ b := fun e => by have := h.tab.head; rw [e, hb] at this; simp at this; exact h4 this.2
  refine ⟨h.low.setCell hw _, ⟨(hne _ hgb).trans hp.head, hp.addr, fun i hi => ?_, fun i hi => ?_, hp.inv, hp.apart, hp.own, hp.few⟩, ⟨(hne _ htb).trans h.tab.head, h.tab.up.len, h.tab.up.max, fun i hi => ?_⟩, h.mine⟩
  · have h2 : gs ≠ b := fun e => by
      have := hp.ptr i hi
      rw [e, blk_cell hb i] at this
      exact hptr i _ this _ rfl
    exact (World.cell?_of_block (a := ⟨gs, i, none⟩) (w := wr) (hne _ h2)).trans (hp.ptr i hi)
  · have hq := hp.prof i hi
    exact ⟨(hne _ (fun e => hm ⟨i, hi, .inl e.symm⟩)).trans hq.head, hq.row.of_block (hne _ (fun e => hm ⟨i, hi, .inr e.symm⟩)), hq.ne⟩
  · obtain ⟨c, off, e, hlt, hc⟩ := h.tab.up.cell i hi
    have := hub (by omega) c off e
    exact ⟨c, off, e, by simpa [World.setCell] using hlt, (World.cell?_of_block (a := ⟨c, off + i, none⟩) (w := wr) (hne c (by omega))).trans hc⟩
end Go.Proofs.Ytpjajiambbobhaa

/- plan.Pass, walked: what each job that waits is promised. -/
namespace Go.Proofs.Ytpjajiambbobhaa
open Go.RowKit

theorem kept_set (st : List (Ask × Bool)) (a : Ask) (b : Bool) (m k : Nat) (hk : k < m) (hl : st.length = k) :
    ((st.map fun x => Value.bool x.2) ++ List.replicate (m - k) (Value.bool false)).toArray.setIfInBounds k (.bool b) = (((st ++ [(a, b)]).map fun x => Value.bool x.2) ++ List.replicate (m - (k + 1)) (Value.bool false)).toArray := by
  obtain ⟨d, hd⟩ : ∃ d, m - k = d + 1 := ⟨m - k - 1, by omega⟩
  rw [hd, show m - (k + 1) = d by omega, List.replicate_succ]
  apply Array.toList_inj.1
  simp [hl]
theorem bools_noptr (st : List (Ask × Bool)) (d : Nat) : ∀ (i : Nat) (u : Value), ((st.map fun x => Value.bool x.2) ++ List.replicate d (Value.bool false)).toArray[i]? = some u → ∀ p : Addr, u ≠ Value.pointer (some p) := by
  intro i u hi p e
  rw [List.getElem?_toArray] at hi
  rcases List.mem_append.1 (List.mem_of_getElem? hi) with h | h
  · obtain ⟨_, _, rfl⟩ := List.mem_map.1 h; cases e
  · rw [(List.mem_replicate.1 h).2] at e; cases e
theorem cells_new (w : World) (cs : Array Value) (T : TypeId) : ∀ j u, cs.toList[j]? = some u → (w.alloc (.cells cs T (0, 0))).cell? ((⟨w.heap.size, 0, none⟩ : Addr).add j) = some u := by
  intro j u hu
  rw [Addr.add_lit, Nat.zero_add, blk_cell (blk_new w _) j]
  simpa using hu
theorem slot_one (s : Slot) : ∀ u ∈ s.cells.toList, u.oneCell' = true := by
  simp [Value.oneCell']
theorem maxLen_ge {n : Nat} (h : n ≤ 1000000) : n + 1 ≤ maxLen := by
  have : maxLen = 9223372036854775807 := by kernel_rfl
  omega
theorem slot_size (s : Slot) : s.cells.size = 3 := rfl
theorem three_pos : 0 < 3 := Nat.succ_pos _

/-- what one knows of a row that grows in place or anew -/
theorem LaW.other {w : World} {tb gb gs cap : Nat} {po uo : Option Addr} {un uc : Nat} {bs : List Bool} {now : Int} {q : List Nd} {wr w' : World} {b : Nat} {x : Array Value} {T : TypeId} (h : LaW w tb gb gs cap po uo un uc bs now q wr) (hb : wr.heap[b]? = some (.cells x T (0, 0)))
    (h1 : T ≠ 102) (h2 : T ≠ 43) (h3 : T ≠ 111) (h4 : T ≠ 127) (hw : w.heap.size ≤ b) (hub : 0 < un → ∀ b off, uo = some ⟨b, off, none⟩ → b < w.heap.size) (hgs : 0 < q.length → gs ≠ b) (hg : wr.grownBy w' (some b)) :
    LaW w tb gb gs cap po uo un uc bs now q w' := by
  have hne : ∀ c, c < wr.heap.size → c ≠ b → w'.heap[c]? = wr.heap[c]? := fun c hl hc => hg.block c hl (fun e => hc (by cases e; rfl))
  have hm := not_mineT h.pool hb h1 h2
  have hp := h.pool
  have hgb : gb ≠ b := fun e => by have := hp.head; rw [e, hb] at this; simp at this; exact h3 this.2
  have htb : tb ≠ b := fun e => by have := h.tab.head; rw [e, hb] at this; simp at this; exact h4 this.2
  refine ⟨h.low.grown hg h.low.size (fun c e => by cases e; exact hw), ⟨(hne _ (blk_lt hp.head) hgb).trans hp.head, hp.addr, fun i hi => ?_, fun i hi => ?_, hp.inv, hp.apart, hp.own, hp.few⟩, ⟨(hne _ (blk_lt h.tab.head) htb).trans h.tab.head, h.tab.up.len, h.tab.up.max, fun i hi => ?_⟩, h.mine⟩
  · exact (World.cell?_of_block (a := ⟨gs, i, none⟩) (w := wr) (hne _ (hp.gslt (by omega)) (hgs (by omega)))).trans (hp.ptr i hi)
  · have hq := hp.prof i hi
    have hl := hq.lt
    exact ⟨(hne _ hl.1 (fun e => hm ⟨i, hi, .inl e.symm⟩)).trans hq.head, hq.row.of_block (hne _ hl.2 (fun e => hm ⟨i, hi, .inr e.symm⟩)), hq.ne⟩
  · obtain ⟨c, off, e, hlt, hc⟩ := h.tab.up.cell i hi
    have := hub (by omega) c off e
    exact ⟨c, off, e, Nat.lt_of_lt_of_le hlt hg.size, (World.cell?_of_block (a := ⟨c, off + i, none⟩) (w := wr) (hne c hlt (by omega))).trans hc⟩

/-- the slots told so far -/
structure SlW (w : World) (gs g cp k : Nat) (sl : List Slot) (q : List Nd) (wr : World) : Prop where
  own : wr.ownsRow w.heap.size 88 3 (.slice (some ⟨g, 0, none⟩) k cp) k (flatv Slot.cells sl)
  len : sl.length = k
  ok : ∀ s, s ∈ sl → Slot.ok wr s ∧ ∀ b off, s.go = some ⟨b, off, none⟩ → w.heap.size ≤ b ∧ b < wr.heap.size ∧ ¬ Mine q b ∧ b ≠ g
  gs : 0 < q.length → gs ≠ g
theorem SlW.blk {w : World} {gs g cp k : Nat} {sl : List Slot} {q : List Nd} {wr : World} (h : SlW w gs g cp k sl q wr) : ∃ cur, wr.heap[g]? = some (.cells cur 88 (0, 0)) := by
  rcases h.own.2 with ⟨c, _⟩ | ⟨g', cap, cur, e, _, h, _⟩
  · cases c
  · cases e; exact ⟨cur, h⟩
theorem SlW.below {w : World} {gs g cp k : Nat} {sl : List Slot} {q : List Nd} {wr w' : World} (h : SlW w gs g cp k sl q wr) (hb : Below wr.heap.size wr w') : SlW w gs g cp k sl q w' :=
  ⟨owns_below h.own hb (Nat.le_refl _), h.len, fun s hs => ⟨(h.ok s hs).1.below hb, fun b off e => by obtain ⟨p1, p2, p3, p4⟩ := (h.ok s hs).2 b off e; exact ⟨p1, Nat.lt_of_lt_of_le p2 hb.size, p3, p4⟩⟩, h.gs⟩
theorem SlW.mod {w : World} {gs g cp k : Nat} {sl : List Slot} {q q' : List Nd} {wr w' : World} (h : SlW w gs g cp k sl q wr) (hg : ¬ Mine q g) (hk : Kin wr q q') (hm : Mod (Mine q) wr w') : SlW w gs g cp k sl q' w' := by
  refine ⟨owns_same h.own fun c e => ?_, h.len, fun s hs => ⟨⟨(h.ok s hs).1.gang.mod hm (fun _ b off e => ((h.ok s hs).2 b off e).2.2.1), (h.ok s hs).1.gle⟩, fun b off e => ?_⟩, fun h0 => h.gs (by rw [hk.len] at h0; exact h0)⟩
  · cases e
    exact hm.block _ (h.own.lt g rfl).2 hg
  · obtain ⟨h1, h4, h2, h3⟩ := (h.ok s hs).2 b off e
    refine ⟨h1, Nat.lt_of_lt_of_le h4 hm.size, fun c => ?_, h3⟩
    rcases hk.mine c with c | c
    · exact h2 c
    · omega
theorem FindA.found {ps q : List Nd} {bs : List Bool} {now st : Int} {a : Ask} {so : Option Addr} {sn : Nat} {w : World} (h : FindA ps bs now a st so sn q w) (hl : Like ps q) : ∃ zs, FoundR now bs a st zs ps q ∧ IntsAt w so sn zs ∧ (∀ b off, so = some ⟨b, off, none⟩ → 0 < sn) := by
  rcases h with ⟨c, rfl, rfl, rfl, rfl⟩ | ⟨c, t, xs, is, hR, d1, d2⟩
  · exact ⟨[], .inl ⟨c, rfl, rfl, rfl⟩, ints_nil w, fun b off e => by cases e⟩
  · cases is with
    | false =>
      obtain ⟨rfl, rfl, rfl, rfl⟩ := d1 rfl
      exact ⟨[], .inr ⟨c, t, xs, false, hR, fun _ => ⟨rfl, rfl, rfl⟩, fun h => by cases h⟩, ints_nil w, fun b off e => by cases e⟩
    | true =>
      obtain ⟨rfl, hz, r, hT⟩ := d2 rfl
      refine ⟨ints xs, .inr ⟨c, st, xs, true, hR, fun h => (by cases h), fun _ => ⟨rfl, rfl, r, hT, hl⟩⟩, hz, fun b off e => ?_⟩
      have := hR.found.len; have := hR.found.many1; have := hz.len
      simp [ints] at this
      omega
/-- one more slot -/
theorem SlW.snoc {w : World} {gs g cp k g9 cap9 : Nat} {sl : List Slot} {q : List Nd} {wr w9 : World} {s : Slot} {gb cap : Nat} {po : Option Addr} (h : SlW w gs g cp k sl q wr) (hp : Pool wr gb gs po cap q) (hs : s.ok wr) (hsb : ∀ b off, s.go = some ⟨b, off, none⟩ → w.heap.size ≤ b ∧ b < wr.heap.size ∧ ¬ Mine q b ∧ b ≠ g)
    (hown : w9.ownsRow w.heap.size 88 3 (.slice (some ⟨g9, 0, none⟩) (k + 1) cap9) (k + 1) (flatv Slot.cells sl ++ s.cells.toList)) (hg : (wr.alloc (.cells s.cells 88 (0, 0))).grownBy w9 (some g)) (hb : (Value.slice (some ⟨g9, 0, none⟩) (k + 1) cap9).ownBlock = (Value.slice (some ⟨g, 0, none⟩) k cp).ownBlock ∨ (Value.slice (some ⟨g9, 0, none⟩) (k + 1) cap9).ownBlock = some (wr.alloc (.cells s.cells 88 (0, 0))).heap.size) :
    SlW w gs g9 cap9 (k + 1) (sl ++ [s]) q w9 := by
  have hgg : g9 = g ∨ g9 = wr.heap.size + 1 := by
    rcases hb with e | e
    · left; simpa [Value.ownBlock] using e
    · right; simpa [Value.ownBlock] using e
  have hne : ∀ c, c < wr.heap.size → c ≠ g → w9.heap[c]? = wr.heap[c]? := fun c hl hc => (hg.block c (by simp; omega) (fun e => hc (by cases e; rfl))).trans (Below.heap_alloc wr _ c hl)
  have hsz : wr.heap.size + 1 ≤ w9.heap.size := by have := hg.size; simpa using this
  have keep : ∀ x : Slot, x.ok wr → (∀ b off, x.go = some ⟨b, off, none⟩ → w.heap.size ≤ b ∧ b < wr.heap.size ∧ ¬ Mine q b ∧ b ≠ g) → Slot.ok w9 x ∧ ∀ b off, x.go = some ⟨b, off, none⟩ → w.heap.size ≤ b ∧ b < w9.heap.size ∧ ¬ Mine q b ∧ b ≠ g9 := fun x hx hxb => by
    refine ⟨⟨⟨hx.gang.len, hx.gang.max, fun i hi => ?_⟩, hx.gle⟩, fun b off e => ?_⟩
    · obtain ⟨b, off, e, hlt, hc⟩ := hx.gang.cell i hi
      have h1 := hxb b off e
      exact ⟨b, off, e, by omega, (World.cell?_of_block (a := ⟨b, off + i, none⟩) (w := wr) (hne b hlt h1.2.2.2)).trans hc⟩
    · have h1 := hxb b off e
      exact ⟨h1.1, by omega, h1.2.2.1, by omega⟩
  refine ⟨by rw [flatv_append, flatv_one]; exact hown, by simp [h.len], fun x hx => ?_, fun h0 => ?_⟩
  · rcases List.mem_append.1 hx with hx | hx
    · exact keep x (h.ok x hx).1 (h.ok x hx).2
    · have : x = s := by simpa using hx
      subst this
      exact keep x hs hsb
  · have := h.gs h0
    have := hp.gslt h0
    omega

end Go.Proofs.Ytpjajiambbobhaa

/- plan.Pass, walked: what each job that waits is promised. -/
namespace Go.Proofs.Ytpjajiambbobhaa
open Go.RowKit

theorem len_snoc {α : Type} {xs : List α} {k : Nat} (h : xs.length = k) (x : α) : (xs ++ [x]).length = k + 1 := by simp [h]
theorem kept_store {w wr : World} {tb gb gs cap un uc kb l k : Nat} {po uo : Option Addr} {bs : List Bool} {now : Int} {q : List Nd} {st : List (Ask × Bool)} {x : Ask} {b : Bool}
    (h : PaW w tb gb gs cap po uo un uc bs now q kb ((st.map fun x => Value.bool x.2) ++ List.replicate (l - k) (.bool false)) wr) (hk : k < l) (hst : st.length = k) (hul : 0 < un → ∀ b off, uo = some ⟨b, off, none⟩ → b < w.heap.size) :
    PaW w tb gb gs cap po uo un uc bs now q kb (((st ++ [(x, b)]).map fun x => Value.bool x.2) ++ List.replicate (l - (k + 1)) (.bool false)) (wr.setCell ⟨kb, k, none⟩ (.bool b)) := by
  refine ⟨h.la.setOther h.kept (by decide) (by decide) (by decide) (by decide) h.kw hul (bools_noptr _ _), ?_, h.kw⟩
  rw [← kept_set st x b l k hk hst]
  exact blk_set h.kept k _
theorem kept_cell {w wr : World} {tb gb gs cap un uc kb l k : Nat} {po uo : Option Addr} {bs : List Bool} {now : Int} {q : List Nd} {st : List (Ask × Bool)}
    (h : PaW w tb gb gs cap po uo un uc bs now q kb ((st.map fun x => Value.bool x.2) ++ List.replicate (l - k) (.bool false)) wr) (hk : k < l) (hst : st.length = k) : wr.cell? ⟨kb, k, none⟩ = some (.bool false) := by
  rw [blk_cell h.kept k, List.getElem?_toArray, List.getElem?_append_right (by simp; omega)]
  simp only [List.length_map, hst, Nat.sub_self, List.getElem?_replicate]
  rw [if_pos (by omega)]

theorem Ask.ok.modded {w wr w5 : World} {tb gb gs cap un uc : Nat} {po uo : Option Addr} {bs : List Bool} {now : Int} {x : Ask} {q : List Nd} {WA : World} (h : x.ok wr) (hm : Mod (Mine q) wr w5) (h0 : x.ok w) (hP : LaW w tb gb gs cap po uo un uc bs now q WA) : x.ok w5 :=
  ⟨h.places.mod hm (off_of h0.places (Nat.le_refl _) hP.mine), h.ple, h.gang.mod hm (off_of h0.gang (Nat.le_refl _) hP.mine), h.gle⟩

set_option maxRecDepth 100000 in
set_option maxHeartbeats 12800000 in
theorem pass_any (vo uo ho ao : Option Addr) (n c un uc m mc l lc : Nat) (vs : List V4) (bs : List Bool) (now : Int) (hs : List Hold) (asks : List Ask) (w : World) (hv : VecsAt w vo n vs) (hu : BoolsAt w uo un bs) (hh : HoldsAt w ho m hs) (ha : AsksAt w ao l asks) (hl : l ≤ 1000000) :
    Calls Try.prog 49 #[.slice vo n c, .slice uo un uc, .int .i64 now, .slice ho m mc, .slice ao l lc] w (PassPost vs now bs hs asks w) := by
  have hul : 0 < un → ∀ b off, uo = some ⟨b, off, none⟩ → b < w.heap.size := fun h0 => hu.lt h0
  have hlay := lay_any vo uo ho n c un uc m mc vs bs now hs w hv hu hh
  have hbl := hu.len
  have hal := ha.len
  have hmk1 := make_bools l hl
  have hmk2 := make_slots l hl
  obtain ⟨i88, hi88, hz88, hz881, hz882⟩ := info_parts info88
  replace hv := Lib.hid hv; replace hu := Lib.hid hu; replace hh := Lib.hid hh; replace ha := Lib.hid ha; replace hul := Lib.hid hul; replace hlay := Lib.hid hlay; replace hbl := Lib.hid hbl; replace hal := Lib.hid hal
  go_enter Try.func49, Try.ntmps49
  go_wp2_with fail
  refine hlay.out.mono ?_
  rintro e w1 ⟨hB1, ⟨r, hr, rfl, hrel⟩ | ⟨tb, gb, gs, cap, po, q0, rfl, hp1, ht1, hm1, hrel1⟩⟩
  · have d : (r != 0) = true := by simpa using hr
    replace hrel := Lib.hid hrel; replace hB1 := Lib.hid hB1; replace hr := Lib.hid hr
    go_wp2
    go_ret2
    exact ⟨hB1.out, .inl ⟨r, hr.out, rfl, by rw [hbl.out]; exact hrel.out⟩⟩
  have hok : LayOk vs un now := by
    rcases hrel1 with ⟨_, h⟩ | ⟨h, _⟩
    · cases h
    · exact h
  have hu16 : un ≤ 1000000 := by have := hok.up; have := hok.few; omega
  have hnow := hok.lo
  have hnow2 := hok.hi
  obtain ⟨WK, hWK⟩ : ∃ WK, WK = w1.alloc (.cells (Array.replicate l (.bool false)) 4 (0, 0)) := ⟨_, rfl⟩
  have hb1K : Below w1.heap.size w1 WK := by rw [hWK]; exact (Below.refl _ _).alloc (Nat.le_refl _) _
  have hP0 : PaW w tb gb gs cap po uo un uc bs now q0 w1.heap.size (List.replicate l (.bool false)) WK :=
    ⟨(LaW.mk hB1 hp1 ht1 hm1).below hb1K, by rw [hWK, List.toArray_replicate]; exact blk_new _ _, hB1.size⟩
  replace hrel1 := Lib.hid hrel1; replace hB1 := Lib.hid hB1; replace hp1 := Lib.hid hp1; replace ht1 := Lib.hid ht1; replace hm1 := Lib.hid hm1; replace hok := Lib.hid hok; replace hu16 := Lib.hid hu16; replace hP0 := Lib.hid hP0; replace hb1K := Lib.hid hb1K; replace hnow := Lib.hid hnow; replace hnow2 := Lib.hid hnow2
  go_wp2
  go_loopw [15, 16, 37] (fun _ _ i wr => ∃ (k : Nat) (q : List Nd) (st : List (Ask × Bool)), i = .int .i64 k ∧ k ≤ l ∧ Hid (PaW w tb gb gs cap po uo un uc bs now q w1.heap.size ((st.map fun x => Value.bool x.2) ++ List.replicate (l - k) (.bool false)) wr) ∧ Hid (st.length = k) ∧ Hid (st.map Prod.fst = asks.take k) ∧ Hid (Chain (KeptR now bs) st q0 q)) (fun _ _ i _ => l - (intOf i).toNat)
  case atStart => exact ⟨0, q0, [], rfl, Nat.zero_le _, hWK ▸ hP0.out, rfl, rfl, rfl⟩
  case round =>
    obtain ⟨k, q, st, rfl, hk, hP, hst, hsa, hC⟩ := hrel
    by_cases hc : k < l
    · have hc1 : (k : Int) < l := by omega
      have hk0 : (0 : Int) ≤ (k : Int) := by omega
      obtain ⟨x, hx⟩ := ha.out.get hc
      obtain ⟨b, off, rfl, hb, a0, hxo⟩ := ha.out.cell k x hx
      have hlow := hP.out.la.low
      have c0 := (below_cell hlow hb).trans (a0 0 (by omega))
      have c1 := (below_cell hlow hb).trans (a0 1 (by omega))
      have c2 := (below_cell hlow hb).trans (a0 2 (by omega))
      have c3 := (below_cell hlow hb).trans (a0 3 (by omega))
      have c4 := (below_cell hlow hb).trans (a0 4 (by omega))
      have c5 := (below_cell hlow hb).trans (a0 5 (by omega))
      have c6 := (below_cell hlow hb).trans (a0 6 (by omega))
      have c7 := (below_cell hlow hb).trans (a0 7 (by omega))
      have c8 := (below_cell hlow hb).trans (a0 8 (by omega))
      have c9 := (below_cell hlow hb).trans (a0 9 (by omega))
      simp at c0 c1 c2 c3 c4 c5 c6 c7 c8 c9
      clear a0
      have hPa : PaW w tb gb gs cap po uo un uc bs now q w1.heap.size ((st.map fun x => Value.bool x.2) ++ List.replicate (l - k) (.bool false)) (wr.alloc x.obj) := hP.out.below ((Below.refl _ _).alloc (Nat.le_refl _) _)
      have hbox : (wr.alloc x.obj).heap[wr.heap.size]? = some x.obj := blk_new _ _
      have hsn : ∀ b, (st ++ [(x, b)]).map Prod.fst = asks.take (k + 1) := fun b => by rw [take_snoc hx, ← hsa.out]; simp
      by_cases qs : x.start < 0
      · have d : decide (0 ≤ x.start) = false := by simp; omega
        have hp2 := (kept_store (x := x) (b := false) hP.out hc hst.out hul.out).below ((Below.refl _ _).alloc (Nat.le_refl _) x.obj)
        have hC2 : Chain (KeptR now bs) (st ++ [(x, false)]) q0 q := chain_snoc hC.out (.inl ⟨qs, rfl, rfl⟩)
        have kf := blk_free hP.out.kept k
        have kc := kept_cell hP.out hc hst.out
        have lk := blk_lt hP.out.kept
        replace hp2 := Lib.hid hp2; replace hC2 := Lib.hid hC2; replace hPa := Lib.hid hPa; replace hbox := Lib.hid hbox; replace hsn := Lib.hid hsn; replace qs := Lib.hid qs; replace hxo := Lib.hid hxo; replace hx := Lib.hid hx; replace hlow := Lib.hid hlow
        go_wp2
        go_roundw
        case rel => exact ⟨k + 1, q, st ++ [(x, false)], by go_num, by omega, hp2.out, len_snoc hst.out _, hsn.out _, hC2.out⟩
        case measure => simp [intOf]; omega
      · have d : decide (0 ≤ x.start) = true := by simp; omega
        obtain ⟨F, hF⟩ : ∃ F, F = from_ now x := ⟨_, rfl⟩
        have hmx : (if x.start < now then now else x.start) = F := by rw [hF]; unfold from_; omega
        have htk := takea_any gb gs cap po q tb un uc uo bs now x F x.go x.gn x.gc x.gzs (wr.alloc x.obj) hPa.la.pool hPa.la.tab ((hxo.below' hPa.la.low).places) hu16.out ((hxo.below' hPa.la.low).gang) (off_of hxo.gang (Nat.le_refl _) hPa.la.mine) hxo.gle hnow.out
        have qs' : 0 ≤ x.start := by omega
        replace hPa := Lib.hid hPa; replace hbox := Lib.hid hbox; replace hsn := Lib.hid hsn; replace qs := Lib.hid qs; replace qs' := Lib.hid qs'; replace hxo := Lib.hid hxo; replace hx := Lib.hid hx; replace hlow := Lib.hid hlow; replace htk := Lib.hid htk; replace hF := Lib.hid hF
        go_wp2_with fail
        refine htk.out.mono ?_
        rintro e w3 ⟨bk, q2, rfl, hp3, hk3, hm3, hcase⟩
        have hP3 := hPa.out.mod hul.out hp3 hk3 hm3
        have hl3 := like_of hk3 hp3
        have hp2 := kept_store (x := x) (b := bk) hP3 hc hst.out hul.out
        have hC2 : Chain (KeptR now bs) (st ++ [(x, bk)]) q0 q2 := chain_snoc hC.out (by
          rw [hF.out] at hcase
          rcases hcase with ⟨h1, h2, h3⟩ | ⟨h1, r, h2, h3⟩
          · exact .inr (.inl ⟨qs'.out, h1, h2, h3⟩)
          · exact .inr (.inr ⟨qs'.out, h1, r, ⟨h2, hl3⟩, h3⟩))
        have kf := blk_free hP3.kept k
        have kc := kept_cell hP3 hc hst.out
        have lk := blk_lt hP3.kept
        clear c0 c1 c2 c3 c4 c5 c6 c7 c8 c9 hcase
        replace hp2 := Lib.hid hp2; replace hC2 := Lib.hid hC2; replace hP3 := Lib.hid hP3; replace hl3 := Lib.hid hl3; replace hp3 := Lib.hid hp3; replace hk3 := Lib.hid hk3; replace hm3 := Lib.hid hm3
        go_wp2
        go_roundw
        case rel => exact ⟨k + 1, q2, st ++ [(x, bk)], by go_num, by omega, hp2.out, len_snoc hst.out _, hsn.out _, hC2.out⟩
        case measure => simp [intOf]; omega
    · have hc1 : ¬ (k : Int) < l := by omega
      have hkl : k = l := by omega
      subst hkl
      have hfst : st.map Prod.fst = asks := by rw [hsa.out, List.take_of_length_le (by rw [hal.out]; omega)]
      obtain ⟨WS, hWS⟩ : ∃ WS, WS = wr.alloc (.cells (madeCells (Value.agg #[.int .i64 0, .int .i64 0, .slice none 0 0]).cells (k * 3)) 88 (0, 0)) := ⟨_, rfl⟩
      have hPS : PaW w tb gb gs cap po uo un uc bs now q w1.heap.size ((st.map fun x => Value.bool x.2) ++ List.replicate (k - k) (.bool false)) WS := by rw [hWS]; exact hP.out.below ((Below.refl _ _).alloc (Nat.le_refl _) _)
      have hS0 : SlW w gs wr.heap.size k 0 [] q WS := by
        rw [hWS]
        have hkm : k ≤ maxLen := by have := maxLen_ge (n := k) (by omega); omega
        refine ⟨World.ownsRow_made _ _ k hP.out.la.low.size hkm (size_madeCells _ _), rfl, fun s hs => (by cases hs), fun h0 => by have := hP.out.la.pool.gslt h0; omega⟩
      obtain ⟨Q1, hQ1⟩ : ∃ Q1, Q1 = q := ⟨_, rfl⟩
      rw [← hQ1] at hC
      replace hfst := Lib.hid hfst; replace hPS := Lib.hid hPS; replace hS0 := Lib.hid hS0; replace hQ1 := Lib.hid hQ1
      go_wp2
      go_loopw [17, 18, 19, 20, 65] (fun sv _ _ _ i wr => ∃ (j : Nat) (q : List Nd) (g cp : Nat) (sl : List Slot) (rd : List ((Ask × Bool) × Slot)), sv = .slice (some ⟨g, 0, none⟩) j cp ∧ i = .int .i64 j ∧ j ≤ k ∧ Hid (PaW w tb gb gs cap po uo un uc bs now q w1.heap.size ((st.map fun x => Value.bool x.2) ++ List.replicate (k - k) (.bool false)) wr) ∧ Hid (SlW w gs g cp j sl q wr) ∧ Hid (rd.map Prod.fst = st.take j) ∧ Hid (rd.map Prod.snd = sl) ∧ Hid (Chain (RoundR now bs) rd Q1 q)) (fun _ _ _ _ i _ => k - (intOf i).toNat)
      case atStart => exact ⟨0, q, _, _, [], [], rfl, rfl, Nat.zero_le _, hWS ▸ hPS.out, hWS ▸ hS0.out, rfl, rfl, hQ1.out.symm⟩
      case round =>
        obtain ⟨j, q2, g, cp, sl, rd, rfl, rfl, hj, hP2, hS2, hr1, hr2, hC2⟩ := hrel
        by_cases hc2 : j < k
        · have hc3 : (j : Int) < k := by omega
          have hj0 : (0 : Int) ≤ (j : Int) := by omega
          obtain ⟨x, hx⟩ := ha.out.get hc2
          obtain ⟨b, off, rfl, hb, a0, hxo⟩ := ha.out.cell j x hx
          have hlow := hP2.out.la.low
          have c0 := (below_cell hlow hb).trans (a0 0 (by omega))
          have c1 := (below_cell hlow hb).trans (a0 1 (by omega))
          have c2 := (below_cell hlow hb).trans (a0 2 (by omega))
          have c3 := (below_cell hlow hb).trans (a0 3 (by omega))
          have c4 := (below_cell hlow hb).trans (a0 4 (by omega))
          have c5 := (below_cell hlow hb).trans (a0 5 (by omega))
          have c6 := (below_cell hlow hb).trans (a0 6 (by omega))
          have c7 := (below_cell hlow hb).trans (a0 7 (by omega))
          have c8 := (below_cell hlow hb).trans (a0 8 (by omega))
          have c9 := (below_cell hlow hb).trans (a0 9 (by omega))
          simp at c0 c1 c2 c3 c4 c5 c6 c7 c8 c9
          clear a0
          obtain ⟨bk, hbk⟩ : ∃ bk, st[j]? = some (x, bk) := by
            have h1 : j < st.length := by rw [hst.out]; exact hc2
            refine ⟨st[j].2, ?_⟩
            have h2 : (st.map Prod.fst)[j]? = some x := by rw [hfst.out]; exact hx
            rw [List.getElem?_map, List.getElem?_eq_getElem h1] at h2
            rw [List.getElem?_eq_getElem h1]
            simp at h2
            rw [← h2]
          have hPa := hP2.out.below ((Below.refl _ _).alloc (Nat.le_refl _) x.obj)
          have hSa := hS2.out.below ((Below.refl _ _).alloc (Nat.le_refl _) x.obj)
          have hbox : (wr.alloc x.obj).heap[wr.heap.size]? = some x.obj := blk_new _ _
          have hxa := hxo.below' hPa.la.low
          have hrn : ∀ s, (rd ++ [((x, bk), s)]).map Prod.fst = st.take (j + 1) := fun s => by rw [take_snoc hbk, ← hr1.out]; simp
          have hrm : ∀ s, (rd ++ [((x, bk), s)]).map Prod.snd = sl ++ [s] := fun s => by rw [← hr2.out]; simp
          have kc : wr.cell? ⟨w1.heap.size, j, none⟩ = some (.bool bk) := by
            rw [blk_cell hP2.out.kept j, List.getElem?_toArray, List.getElem?_append_left (by simp [hst.out]; exact hc2), List.getElem?_map, hbk]
            rfl
          have lk := blk_lt hP2.out.kept
          obtain ⟨F, hF⟩ : ∃ F, F = from_ now x := ⟨_, rfl⟩
          have hmx : (if x.start < now then now else x.start) = F := by rw [hF]; unfold from_; omega
          have hgm : ∀ (wq : World) (q : List Nd), Pool wq gb gs po cap q → SlW w gs g cp j sl q wq → ¬ Mine q g := fun wq q h1 h2 => by
            obtain ⟨cur, h3⟩ := h2.blk
            exact not_mineT h1 h3 (by decide) (by decide)
          replace hPa := Lib.hid hPa; replace hSa := Lib.hid hSa; replace hbox := Lib.hid hbox; replace hxa := Lib.hid hxa; replace hrn := Lib.hid hrn; replace hrm := Lib.hid hrm; replace hF := Lib.hid hF; replace hgm := Lib.hid hgm; replace hx := Lib.hid hx; replace hxo := Lib.hid hxo; replace hlow := Lib.hid hlow
          have hend : Hid (∀ (wm w8 w9 : World) (qm q8 : List Nd) (st8 : Int) (so8 : Option Addr) (sn8 sc8 g9 cap9 : Nat),
            PaW w tb gb gs cap po uo un uc bs now qm w1.heap.size ((st.map fun x => Value.bool x.2) ++ List.replicate (k - k) (.bool false)) wm → SlW w gs g cp j sl qm wm → ((bk = false ∧ qm = q2) ∨ (bk = true ∧ ∃ r, GaveL q2 x.gzs F (F + x.ticks) x.v r qm)) →
            Pool w8 gb gs po cap q8 → Kin wm qm q8 → Mod (Mine qm) wm w8 → sn8 ≤ sc8 → (∀ b off, so8 = some ⟨b, off, none⟩ → wm.heap.size ≤ b ∧ ¬ Mine q8 b) → FindA qm bs now x st8 so8 sn8 q8 w8 →
            w9.ownsRow w.heap.size 88 3 (.slice (some ⟨g9, 0, none⟩) (j + 1) cap9) (j + 1) (flatv Slot.cells sl ++ [.int .i64 x.id, .int .i64 st8, .slice so8 sn8 sc8]) → (w8.alloc (.cells #[.int .i64 x.id, .int .i64 st8, .slice so8 sn8 sc8] 88 (0, 0))).grownBy w9 (some g) →
            ((Value.slice (some ⟨g9, 0, none⟩) (j + 1) cap9).ownBlock = (Value.slice (some ⟨g, 0, none⟩) j cp).ownBlock ∨ (Value.slice (some ⟨g9, 0, none⟩) (j + 1) cap9).ownBlock = some (w8.alloc (.cells #[.int .i64 x.id, .int .i64 st8, .slice so8 sn8 sc8] 88 (0, 0))).heap.size) →
            ∃ (sl' : List Slot) (rd' : List ((Ask × Bool) × Slot)), PaW w tb gb gs cap po uo un uc bs now q8 w1.heap.size ((st.map fun x => Value.bool x.2) ++ List.replicate (k - k) (.bool false)) w9 ∧ SlW w gs g9 cap9 (j + 1) sl' q8 w9 ∧ rd'.map Prod.fst = st.take (j + 1) ∧ rd'.map Prod.snd = sl' ∧ Chain (RoundR now bs) rd' Q1 q8) := by
            intro wm w8 w9 qm q8 st8 so8 sn8 sc8 g9 cap9 h1 h2 h3 h4 h5 h6 h7 h8 h9 h10 h11 h12
            have hlk := like_of h5 h4
            obtain ⟨zs, f1, f2, f3⟩ := h9.found hlk
            have hP8 := h1.mod hul.out h4 h5 h6
            have hS8 := h2.mod (hgm.out _ _ h1.la.pool h2) h5 h6
            obtain ⟨s, hs⟩ : ∃ s : Slot, s = ⟨x.id, st8, so8, sn8, sc8, zs⟩ := ⟨_, rfl⟩
            have hsb : ∀ b off, s.go = some ⟨b, off, none⟩ → w.heap.size ≤ b ∧ b < w8.heap.size ∧ ¬ Mine q8 b ∧ b ≠ g := fun b off e => by
              rw [hs] at e
              obtain ⟨p1, p2⟩ := h8 b off e
              obtain ⟨b', off', e', hlt, _⟩ := f2.cell 0 (f3 b off e)
              rw [show so8 = some ⟨b, off, none⟩ from e] at e'; cases e'
              have := h1.la.low.size
              have := (h2.own.lt g rfl).2
              exact ⟨by omega, hlt, p2, by omega⟩
            obtain ⟨cur, hcur⟩ := (hS8.below ((Below.refl _ _).alloc (Nat.le_refl _) (.cells #[.int .i64 x.id, .int .i64 st8, .slice so8 sn8 sc8] 88 (0, 0)))).blk
            have hP8a := hP8.below ((Below.refl _ _).alloc (Nat.le_refl _) (.cells #[.int .i64 x.id, .int .i64 st8, .slice so8 sn8 sc8] 88 (0, 0)))
            have hkb : w1.heap.size ≠ g := fun e => by have := hP8a.kept; rw [e, hcur] at this; simp at this
            refine ⟨sl ++ [s], rd ++ [((x, bk), s)], ⟨hP8a.la.other hcur (by decide) (by decide) (by decide) (by decide) (h2.own.lt g rfl).1 hul.out hS8.gs h11, (h11.block _ (blk_lt hP8a.kept) (fun e => hkb (by cases e; rfl))).trans hP8a.kept, h1.kw⟩, ?_, hrn.out s, hrm.out s, chain_snoc hC2.out ⟨qm, ?_, ?_, ?_⟩⟩
            · exact SlW.snoc (s := s) hS8 h4 (by rw [hs]; exact ⟨f2, h7⟩) hsb (by rw [hs]; exact h10) (by rw [hs]; exact h11) (by rw [hs]; exact h12)
            · rcases h3 with h | ⟨h, r, h'⟩
              · exact .inl h
              · exact .inr ⟨h, r, by show GaveL q2 x.gzs (from_ now x) (from_ now x + x.ticks) x.v r qm; rw [← hF.out]; exact h'⟩
            · rw [hs]
            · rw [hs]; exact f1
          cases bk with
          | false =>
            have hfd := finda_any gb gs cap po q2 tb un uc uo bs now x (wr.alloc x.obj) hPa.out.la.pool hPa.out.la.tab hxa.out.places hu16.out
            obtain ⟨y0, y1, y2, y3, y4, y5, y6, y7, y8, y9⟩ := ask_cells hbox.out
            have lx := blk_lt hbox.out
            replace hfd := Lib.hid hfd
            go_wp2_with fail
            refine hfd.out.mono ?_
            rintro e w8 ⟨st8, so8, sn8, sc8, q8, rfl, hp8, hk8, hm8', hsc8, hfr8, hfa8⟩
            have hS8 := SlW.mod hSa.out (hgm.out _ _ hPa.out.la.pool hSa.out) hk8 hm8'
            have hownA := hS8.own.alloc (.cells #[.int .i64 x.id, .int .i64 st8, .slice so8 sn8 sc8] 88 (0, 0))
            have hnews := cells_new w8 #[.int .i64 x.id, .int .i64 st8, .slice so8 sn8 sc8] 88
            have hone := slot_one ⟨x.id, st8, so8, sn8, sc8, []⟩
            have h63 := maxLen_ge (n := j) (by omega)
            have hby : (j + 1) * 40 ≤ 140737488355328 := by omega
            have hbas : w.heap.size ≤ (w8.alloc (.cells #[.int .i64 x.id, .int .i64 st8, .slice so8 sn8 sc8] 88 (0, 0))).heap.size := size_alloc (Nat.le_trans hPa.out.la.low.size hm8'.size) _
            clear y0 y1 y2 y3 y4 y5 y6 y7 y8 y9 lx c0 c1 c2 c3 c4 c5 c6 c7 c8 c9 kc lk
            replace hS8 := Lib.hid hS8; replace hownA := Lib.hid hownA; replace hnews := Lib.hid hnews; replace hone := Lib.hid hone; replace h63 := Lib.hid h63; replace hby := Lib.hid hby; replace hbas := Lib.hid hbas; replace hp8 := Lib.hid hp8; replace hk8 := Lib.hid hk8; replace hm8' := Lib.hid hm8'; replace hsc8 := Lib.hid hsc8; replace hfr8 := Lib.hid hfr8; replace hfa8 := Lib.hid hfa8
            go_wp2_with (at_builtin; refine wpList_append_own_at _ rfl _ _ 79 rfl w.heap.size 88 i88 _ 3 40 Try.underlying79 hi88 hz88 hz881 hz882 rfl three_pos (.slice (some ⟨g, 0, none⟩) j cp) j _ rfl hownA.out ⟨w8.heap.size, 0, none⟩ 1 1 [.int .i64 x.id, .int .i64 st8, .slice so8 sn8 sc8] rfl rfl hnews.out hone.out h63.out hby.out hbas.out ?_; intro v1 w9 hown9 hgrow _ hblk; obtain ⟨g9, cap9, rfl⟩ := Joins.ownsRow_form hown9 (Nat.succ_pos _); replace hown9 := Lib.hid hown9; replace hgrow := Lib.hid hgrow; replace hblk := Lib.hid hblk)
            obtain ⟨sl', rd', e1, e2, e3, e4, e5⟩ := hend.out (wr.alloc x.obj) w8 w9 q2 q8 st8 so8 sn8 sc8 g9 cap9 hPa.out hSa.out (by first | exact .inl ⟨rfl, rfl⟩ | exact .inl ⟨trivial, rfl⟩ | simp) hp8.out hk8.out hm8'.out hsc8.out hfr8.out hfa8.out hown9.out hgrow.out hblk.out
            replace e1 := Lib.hid e1; replace e2 := Lib.hid e2; replace e3 := Lib.hid e3; replace e4 := Lib.hid e4; replace e5 := Lib.hid e5
            go_roundw
            case rel => exact ⟨j + 1, q8, g9, cap9, sl', rd', rfl, by go_num, by omega, e1.out, e2.out, e3.out, e4.out, e5.out⟩
            case measure => simp [intOf]; omega
          | true =>
            have hks := kept_span (a := x) (h := (chain_mem hC.out (List.mem_of_getElem? hbk)).choose_spec.choose_spec)
            obtain ⟨z1, z2, z3, z4⟩ := spanL_true hks.2.2.1
            rw [← hF.out] at z1 z2 z3
            have ew : IntKind.i64.wrap (F + x.ticks) = F + x.ticks := IntWalk.i64_in _ (by omega)
            obtain ⟨WA, hWA⟩ : ∃ WA, WA = wr.alloc x.obj := ⟨_, rfl⟩
            rw [← hWA] at hPa hSa hbox hxa
            have hgv : ∀ W', Below WA.heap.size WA W' → Calls Try.prog 40 #[.pointer (some ⟨gb, 0, none⟩), .slice x.go x.gn x.gc, .int .i64 F, .int .i64 (F + x.ticks), x.v.val] W' (GPost (GaveG q2 x.gzs F (F + x.ticks) x.v) gb gs cap po q2 W') :=
              fun W' h => ggive_any gb gs cap po q2 x.go x.gn x.gc x.gzs F (F + x.ticks) x.v W' (hPa.out.la.pool.below h) ((hxa.out.below' h).gang) (off_of hxo.out.gang (Nat.le_refl _) hPa.out.la.mine) hxo.out.gle
            have t0 := blk_cell hPa.out.la.tab.head 0
            simp at t0
            have lt := blk_lt hPa.out.la.tab.head
            obtain ⟨y0, y1, y2, y3, y4, y5, y6, y7, y8, y9⟩ := ask_cells hbox.out
            have lx := blk_lt hbox.out
            have htn : ¬ Mine q2 tb := not_mineT hPa.out.la.pool hPa.out.la.tab.head (by decide) (by decide)
            have hxn : ¬ Mine q2 wr.heap.size := not_mineT hPa.out.la.pool hbox.out (by decide) (by decide)
            have hBd : Below WA.heap.size WA WA.drew := (Below.refl _ _).drew
            replace hks := Lib.hid hks; replace z1 := Lib.hid z1; replace z2 := Lib.hid z2; replace z3 := Lib.hid z3; replace z4 := Lib.hid z4; replace hgv := Lib.hid hgv; replace htn := Lib.hid htn; replace hxn := Lib.hid hxn; replace hBd := Lib.hid hBd
            have hSK : Hid (∀ w' : World, (∀ b, b < WA.heap.size → ¬ Mine q2 b → ∀ o, w'.cell? ⟨b, o, none⟩ = WA.cell? ⟨b, o, none⟩) → w'.cell? ⟨tb, 0, none⟩ = some (.pointer (some ⟨gb, 0, none⟩)) ∧ w'.cell? ⟨wr.heap.size, 3, none⟩ = some (.int .i64 x.v.a) ∧ w'.cell? ⟨wr.heap.size, 4, none⟩ = some (.int .i64 x.v.b) ∧ w'.cell? ⟨wr.heap.size, 5, none⟩ = some (.int .i64 x.v.c) ∧ w'.cell? ⟨wr.heap.size, 6, none⟩ = some (.int .i64 x.v.d) ∧ w'.cell? ⟨wr.heap.size, 7, none⟩ = some (.int .i64 x.ticks) ∧ w'.cell? ⟨wr.heap.size, 8, none⟩ = some (.int .i64 x.start) ∧ w'.cell? ⟨wr.heap.size, 9, none⟩ = some (.slice x.go x.gn x.gc)) :=
              fun w' h => ⟨(h _ lt htn.out _).trans t0, (h _ lx hxn.out _).trans y3, (h _ lx hxn.out _).trans y4, (h _ lx hxn.out _).trans y5, (h _ lx hxn.out _).trans y6, (h _ lx hxn.out _).trans y7, (h _ lx hxn.out _).trans y8, (h _ lx hxn.out _).trans y9⟩
            clear y0 y1 y2
            go_wp2_with fail
            have hWA' : wr.alloc (.cells x.cells 84 (0, 0)) = WA := hWA.symm
            try rw [hWA']
            clear c0 c1 c2 c3 c4 c5 c6 c7 c8 c9 kc lk
            replace hWA := Lib.hid hWA; replace hWA' := Lib.hid hWA'
            go_region_held3 (fun w' => w'.cell? ⟨tb, 0, none⟩ = some (.pointer (some ⟨gb, 0, none⟩)) ∧ w'.cell? ⟨wr.heap.size, 3, none⟩ = some (.int .i64 x.v.a) ∧ w'.cell? ⟨wr.heap.size, 4, none⟩ = some (.int .i64 x.v.b) ∧ w'.cell? ⟨wr.heap.size, 5, none⟩ = some (.int .i64 x.v.c) ∧ w'.cell? ⟨wr.heap.size, 6, none⟩ = some (.int .i64 x.v.d) ∧ w'.cell? ⟨wr.heap.size, 7, none⟩ = some (.int .i64 x.ticks) ∧ w'.cell? ⟨wr.heap.size, 8, none⟩ = some (.int .i64 x.start) ∧ w'.cell? ⟨wr.heap.size, 9, none⟩ = some (.slice x.go x.gn x.gc))
              (first
                | (go_keep; done)
                | with_reducible exact hSK.out _ hm8.out)
              (first
                | (go_at_call 40
                   refine (hgv.out _ hBd.out).mono ?_
                   rintro e w5 ⟨r5, q5, rfl, hGv, hp5, hk5, hm5'⟩
                   have hm8 : Hid (∀ b, b < WA.heap.size → ¬ Mine q2 b → ∀ o, w5.cell? ⟨b, o, none⟩ = WA.cell? ⟨b, o, none⟩) := fun b hb hn o => World.cell?_of_block (a := ⟨b, o, none⟩) (w := WA) (hm5'.block b hb hn)
                   replace hGv := Lib.hid hGv; replace hp5 := Lib.hid hp5; replace hk5 := Lib.hid hk5; replace hm5' := Lib.hid hm5'))
            have hPd := hPa.out.below hBd.out
            have hSd := hSa.out.below hBd.out
            have hP5 := hPd.mod hul.out hp5.out hk5.out hm5'.out
            have hS5 := hSd.mod (hgm.out _ _ hPd.la.pool hSd) hk5.out hm5'.out
            have hx5 : w5.heap[wr.heap.size]? = some x.obj := (hm5'.out.block _ (by have := hBd.out.size; omega) hxn.out).trans (blk_below hBd.out hbox.out lx)
            have hw15 : wr.heap.size + 1 ≤ w5.heap.size := by have := blk_lt hx5; omega
            have hxa5 : x.ok w5 := by
              have h1 : x.ok (wr.alloc x.obj) := hWA.out ▸ hxa.out
              exact h1.modded (by rw [← hWA.out]; exact (Mod.of_below2 hBd.out).comp2 hm5'.out) hxo.out hPa.out.la
            replace hP5 := Lib.hid hP5; replace hS5 := Lib.hid hS5; replace hx5 := Lib.hid hx5; replace hxa5 := Lib.hid hxa5; replace hw15 := Lib.hid hw15
            clear t0 lt y3 y4 y5 y6 y7 y8 y9 lx
            have hfd := finda_any gb gs cap po q5 tb un uc uo bs now x w5 hP5.out.la.pool hP5.out.la.tab hxa5.out.places hu16.out
            obtain ⟨y0, y1, y2, y3, y4, y5, y6, y7, y8, y9⟩ := ask_cells hx5.out
            have lx := blk_lt hx5.out
            replace hfd := Lib.hid hfd
            go_wp2_with fail
            refine hfd.out.mono ?_
            rintro e w8 ⟨st8, so8, sn8, sc8, q8, rfl, hp8, hk8, hm8', hsc8, hfr8, hfa8⟩
            have hS8 := SlW.mod hS5.out (hgm.out _ _ hP5.out.la.pool hS5.out) hk8 hm8'
            have hownA := hS8.own.alloc (.cells #[.int .i64 x.id, .int .i64 st8, .slice so8 sn8 sc8] 88 (0, 0))
            have hnews := cells_new w8 #[.int .i64 x.id, .int .i64 st8, .slice so8 sn8 sc8] 88
            have hone := slot_one ⟨x.id, st8, so8, sn8, sc8, []⟩
            have h63 := maxLen_ge (n := j) (by omega)
            have hby : (j + 1) * 40 ≤ 140737488355328 := by omega
            have hbas : w.heap.size ≤ (w8.alloc (.cells #[.int .i64 x.id, .int .i64 st8, .slice so8 sn8 sc8] 88 (0, 0))).heap.size := size_alloc (Nat.le_trans hP5.out.la.low.size hm8'.size) _
            clear y0 y1 y2 y3 y4 y5 y6 y7 y8 y9 lx
            replace hS8 := Lib.hid hS8; replace hownA := Lib.hid hownA; replace hnews := Lib.hid hnews; replace hone := Lib.hid hone; replace h63 := Lib.hid h63; replace hby := Lib.hid hby; replace hbas := Lib.hid hbas; replace hp8 := Lib.hid hp8; replace hk8 := Lib.hid hk8; replace hm8' := Lib.hid hm8'; replace hsc8 := Lib.hid hsc8; replace hfr8 := Lib.hid hfr8; replace hfa8 := Lib.hid hfa8
            go_wp2_with (at_builtin; refine wpList_append_own_at _ rfl _ _ 79 rfl w.heap.size 88 i88 _ 3 40 Try.underlying79 hi88 hz88 hz881 hz882 rfl three_pos (.slice (some ⟨g, 0, none⟩) j cp) j _ rfl hownA.out ⟨w8.heap.size, 0, none⟩ 1 1 [.int .i64 x.id, .int .i64 st8, .slice so8 sn8 sc8] rfl rfl hnews.out hone.out h63.out hby.out hbas.out ?_; intro v1 w9 hown9 hgrow _ hblk; obtain ⟨g9, cap9, rfl⟩ := Joins.ownsRow_form hown9 (Nat.succ_pos _); replace hown9 := Lib.hid hown9; replace hgrow := Lib.hid hgrow; replace hblk := Lib.hid hblk)
            obtain ⟨sl', rd', e1, e2, e3, e4, e5⟩ := hend.out w5 w8 w9 q5 q8 st8 so8 sn8 sc8 g9 cap9 hP5.out hS5.out (by first | exact .inr ⟨rfl, r5, hGv.out, like_of hk5.out hp5.out⟩ | exact .inr ⟨trivial, r5, hGv.out, like_of hk5.out hp5.out⟩) hp8.out hk8.out hm8'.out hsc8.out hfr8.out hfa8.out hown9.out hgrow.out hblk.out
            replace e1 := Lib.hid e1; replace e2 := Lib.hid e2; replace e3 := Lib.hid e3; replace e4 := Lib.hid e4; replace e5 := Lib.hid e5
            go_roundw
            case rel => exact ⟨j + 1, q8, g9, cap9, sl', rd', rfl, by go_num, by omega, e1.out, e2.out, e3.out, e4.out, e5.out⟩
            case measure => simp [intOf]; omega
        · have hc3 : ¬ (j : Int) < k := by omega
          have hjk : j = k := by omega
          subst hjk
          have hrd : rd.map Prod.fst = st := by rw [hr1.out, List.take_of_length_le (by rw [hst.out]; omega)]
          replace hrd := Lib.hid hrd
          go_wp2
          go_ret2
          have hS := hS2.out
          refine ⟨hP2.out.la.low, .inr ⟨some ⟨g, 0, none⟩, cp, sl, (by rw [hal.out]; rfl), ⟨q0, Q1, q2, st, rd, by rw [hbl.out]; exact hrel1.out, hC.out, hfst.out, hC2.out, hrd.out, hr2.out⟩, ?_, ?_, fun b off e => by cases e; exact (hS.own.lt g rfl).1, fun s hs b off e => ((hS.ok s hs).2 b off e).1⟩⟩
          · rw [hal.out]; exact rows_of_own slot_size hS.own hS.len (by omega) (fun s hs => (hS.ok s hs).1)
          · rw [hal.out]
            rcases hS.own.2 with ⟨e, _⟩ | ⟨g', cap', cur, e, _, _, h3, _⟩
            · cases e
            · cases e; exact h3
end Go.Proofs.Ytpjajiambbobhaa

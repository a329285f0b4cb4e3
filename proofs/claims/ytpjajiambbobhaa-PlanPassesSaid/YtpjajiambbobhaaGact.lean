/- What is done to a pool: acts that come in; corveelaw07.taken: raw amounts are taken, as far as they fit. -/
import Derived.Test.YtpjajiambbobhaaGtake
import Derived.Test.YtpjajiambbobhaaNewg
import Derived.Test.YtpjajiambbobhaaTaken
namespace Go.Proofs.Ytpjajiambbobhaa
open Go.RowKit

structure Actg where
  kind : Int
  ao : Option Addr
  n : Nat
  c : Nat
  zs : List Int
  fr : Int
  tt : Int
  many : Int
  v : V4
def Actg.zero : Actg := ⟨0, none, 0, 0, [], 0, 0, 0, V4.zero⟩
abbrev Actg.val (a : Actg) : Value := .agg #[.int .i64 a.kind, .slice a.ao a.n a.c, .int .i64 a.fr, .int .i64 a.tt, .int .i64 a.many, .int .i64 a.v.a, .int .i64 a.v.b, .int .i64 a.v.c, .int .i64 a.v.d]
def actg (l : List Actg) (i : Nat) : Actg := l.getD i Actg.zero
/-- the act's places lie in memory -/
def Actg.ok (w : World) (a : Actg) : Prop := IntsAt w a.ao a.n a.zs ∧ a.n ≤ a.c
theorem Actg.ok.below {w w' : World} {a : Actg} (h : a.ok w) (hb : Below w.heap.size w w') : a.ok w' := ⟨h.1.below hb (Nat.le_refl _), h.2⟩

def ActgsAt (w : World) (sv : Value) (acts : List Actg) : Prop :=
  ∃ (ao : Option Addr) (cap : Nat), sv = .slice ao acts.length cap ∧ acts.length ≤ 9223372036854775807 ∧ ∀ i, i < acts.length → ∃ b off, ao = some ⟨b, off, none⟩ ∧ b < w.heap.size ∧ (actg acts i).ok w ∧
    w.cell? ⟨b, off + i * 9, none⟩ = some (.int .i64 (actg acts i).kind) ∧ w.cell? ⟨b, off + i * 9 + 1, none⟩ = some (.slice (actg acts i).ao (actg acts i).n (actg acts i).c) ∧ w.cell? ⟨b, off + i * 9 + 2, none⟩ = some (.int .i64 (actg acts i).fr) ∧
    w.cell? ⟨b, off + i * 9 + 3, none⟩ = some (.int .i64 (actg acts i).tt) ∧ w.cell? ⟨b, off + i * 9 + 4, none⟩ = some (.int .i64 (actg acts i).many) ∧
    w.cell? ⟨b, off + i * 9 + 5, none⟩ = some (.int .i64 (actg acts i).v.a) ∧ w.cell? ⟨b, off + i * 9 + 6, none⟩ = some (.int .i64 (actg acts i).v.b) ∧ w.cell? ⟨b, off + i * 9 + 7, none⟩ = some (.int .i64 (actg acts i).v.c) ∧ w.cell? ⟨b, off + i * 9 + 8, none⟩ = some (.int .i64 (actg acts i).v.d)
theorem ActgsAt.below {w w' : World} {sv : Value} {acts : List Actg} (h : ActgsAt w sv acts) (hb : Below w.heap.size w w') : ActgsAt w' sv acts := by
  obtain ⟨ao, cap, h1, h2, h3⟩ := h
  refine ⟨ao, cap, h1, h2, fun i hi => ?_⟩
  obtain ⟨b, off, e, hlt, ok, a0, a1, a2, a3, a4, a5, a6, a7, a8⟩ := h3 i hi
  exact ⟨b, off, e, Nat.lt_of_lt_of_le hlt hb.size, ok.below hb, (below_cell hb hlt).trans a0, (below_cell hb hlt).trans a1, (below_cell hb hlt).trans a2, (below_cell hb hlt).trans a3, (below_cell hb hlt).trans a4, (below_cell hb hlt).trans a5, (below_cell hb hlt).trans a6, (below_cell hb hlt).trans a7, (below_cell hb hlt).trans a8⟩

/-- old places are none of a new pool's blocks -/
theorem off_new {w : World} {ao : Option Addr} {n : Nat} {zs : List Int} {ps : List Nd} (h : IntsAt w ao n zs) (hm : ∀ b, Mine ps b → w.heap.size ≤ b) : 0 < n → Off ao (Mine ps) := by
  intro h0 b off e hb
  obtain ⟨b', off', e', hlt, _⟩ := h.cell 0 h0
  rw [e] at e'
  cases e'
  have := hm b hb
  omega
theorem kin_low {w : World} {B : Nat} {ps q : List Nd} (h : Kin w ps q) (hB : B ≤ w.heap.size) (hm : ∀ b, Mine ps b → B ≤ b) : ∀ b, Mine q b → B ≤ b := by
  intro b hb
  rcases h.mine hb with h1 | h1
  · exact hm b h1
  · omega

def GTakenPost (w : World) (e : Ending) (w' : World) : Prop :=
  (e = .returned (.pointer none) ∧ Below w.heap.size w w') ∨
  (∃ gb gs po cap ps, e = .returned (.pointer (some ⟨gb, 0, none⟩)) ∧ Pool w' gb gs po cap ps ∧ (∀ b, Mine ps b → w.heap.size ≤ b) ∧ Below w.heap.size w w')

set_option maxRecDepth 100000 in
set_option maxHeartbeats 1600000 in
theorem gtaken_any (vo : Option Addr) (n c : Nat) (vs : List V4) (sv : Value) (acts : List Actg) (w : World) (hv : VecsAt w vo n vs) (ha : ActgsAt w sv acts) : Calls Try.prog 37 #[.slice vo n c, sv] w (GTakenPost w) := by
  obtain ⟨ao, cap0, rfl, hal, hac⟩ := ha
  have hmax := hv.max
  replace hac := Lib.hid hac
  have hnew := newg_any vo n c vs w hv
  replace hnew := Lib.hid hnew; replace hv := Lib.hid hv
  by_cases q1 : 100 < n
  · have d1 : decide (100 < (n : Int)) = true := by simp; omega
    go_enter Try.func37, Try.ntmps37
    go_wp2
    go_ret
    exact .inl ⟨rfl, Below.refl _ _⟩
  have d1 : decide (100 < (n : Int)) = false := by simp; omega
  go_enter Try.func37, Try.ntmps37
  go_wp2_with fail
  refine hnew.out.mono ?_
  rintro e w2 (⟨hw, rfl, hb2⟩ | ⟨hn16, hr, gb, gs, po, cap, ps, rfl, hgb, hp, hlen, hst, hmine, hb2⟩)
  · replace hw := Lib.hid hw; replace hb2 := Lib.hid hb2
    go_wp2
    go_ret
    exact .inl ⟨rfl, hb2.out⟩
  replace hr := Lib.hid hr; replace hp := Lib.hid hp; replace hlen := Lib.hid hlen; replace hst := Lib.hid hst; replace hmine := Lib.hid hmine; replace hb2 := Lib.hid hb2; replace hgb := Lib.hid hgb
  go_wp2
  go_loopw [6] (fun i wr => ∃ (k : Nat) (q : List Nd), i = .int .i64 k ∧ k ≤ acts.length ∧ Hid (Pool wr gb gs po cap q) ∧ Hid (∀ b, Mine q b → w.heap.size ≤ b) ∧ Hid (Below w.heap.size w wr)) (fun i _ => acts.length - (intOf i).toNat)
  case atStart => exact ⟨0, ps, rfl, Nat.zero_le _, hp.out, hmine.out, hb2.out⟩
  case round =>
    obtain ⟨k, q, rfl, hk, hP, hM, hBr⟩ := hrel
    by_cases hc : k < acts.length ∧ k < 30
    · have hc1 : (k : Int) < acts.length := by omega
      have hc2 : (k : Int) < 30 := by omega
      have hk0 : (0 : Int) ≤ (k : Int) := by omega
      have hkl : k < acts.length := hc.1
      replace hc := Lib.hid hc
      obtain ⟨b, off, rfl, hb, ok, a0, a1, a2, a3, a4, a5, a6, a7, a8⟩ := hac.out k hkl
      have b1 := (below_cell hBr.out hb).trans a1; have b2 := (below_cell hBr.out hb).trans a2
      have b3 := (below_cell hBr.out hb).trans a3; have b5 := (below_cell hBr.out hb).trans a5; have b6 := (below_cell hBr.out hb).trans a6; have b7 := (below_cell hBr.out hb).trans a7; have b8 := (below_cell hBr.out hb).trans a8
      clear a0 a1 a2 a3 a4 a5 a6 a7 a8
      have hsz := hBr.out.size
      obtain ⟨x, hx⟩ : ∃ x, x = actg acts k := ⟨_, rfl⟩
      rw [← hx] at b1 b2 b3 b5 b6 b7 b8 ok
      replace hx := Lib.hid hx
      have htk := gtake_any gb gs cap po q x.ao x.n x.c x.zs x.fr x.tt x.v wr.drew hP.out.drew (ok.1.below hBr.out.drew (Nat.le_refl _)) (off_new ok.1 hM.out) ok.2
      replace htk := Lib.hid htk; replace ok := Lib.hid ok
      by_cases q2 : x.n ≤ 60
      rotate_left
      · have d2 : decide ((x.n : Int) ≤ 60) = false := by simp; omega
        replace q2 := Lib.hid q2
        go_wp2
        go_roundw
        case rel => exact ⟨k + 1, q, by go_num, by omega, hP.out, hM.out, hBr.out⟩
        case measure => simp [intOf]; omega
      have d2 : decide ((x.n : Int) ≤ 60) = true := by simp; omega
      replace q2 := Lib.hid q2
      go_wp2_with fail
      go_region_held3 (fun w' => w'.cell? ⟨b, off + k * 9 + 1, none⟩ = some (.slice x.ao x.n x.c) ∧ w'.cell? ⟨b, off + k * 9 + 2, none⟩ = some (.int .i64 x.fr) ∧ w'.cell? ⟨b, off + k * 9 + 3, none⟩ = some (.int .i64 x.tt) ∧ w'.cell? ⟨b, off + k * 9 + 5, none⟩ = some (.int .i64 x.v.a) ∧
          w'.cell? ⟨b, off + k * 9 + 6, none⟩ = some (.int .i64 x.v.b) ∧ w'.cell? ⟨b, off + k * 9 + 7, none⟩ = some (.int .i64 x.v.c) ∧ w'.cell? ⟨b, off + k * 9 + 8, none⟩ = some (.int .i64 x.v.d))
        (first
          | (go_keep; done)
          | (go_split_ands; refine ⟨?_, ?_, ?_, ?_, ?_, ?_, ?_⟩ <;> (rw [World.cell?_of_block (w := wr) (hmb.out b hb)]; assumption)))
        (first
          | (go_at_call 35
             refine htk.out.mono ?_
             rintro e w3 ⟨r, q', rfl, hR, hp3, hk3, hm3⟩
             have hmb : Hid (∀ b, b < w.heap.size → w3.heap[b]? = wr.heap[b]?) := fun b hb => hm3.block b (by simp; omega) (fun h => by have := hM.out b h; omega)
             replace hR := Lib.hid hR; replace hp3 := Lib.hid hp3; replace hk3 := Lib.hid hk3; replace hm3 := Lib.hid hm3))
      have hB3 : Below w.heap.size w w3 := below_mod hBr.out.drew hm3.out hM.out (by simpa using hsz)
      have hM3 := kin_low hk3.out (by simpa using hsz) hM.out
      replace hB3 := Lib.hid hB3; replace hM3 := Lib.hid hM3
      go_wp2
      go_roundw
      case rel => exact ⟨k + 1, q', by go_num, by omega, hp3.out, hM3.out, hB3.out⟩
      case measure => simp [intOf]; omega
    · by_cases hc1 : k < acts.length
      · have hc2 : (k : Int) < acts.length := by omega
        have hc3 : ¬ (k : Int) < 30 := by omega
        replace hc := Lib.hid hc
        go_wp2
        go_ret
        exact .inr ⟨gb, gs, po, cap, q, rfl, hP.out, hM.out, hBr.out⟩
      · have hc2 : ¬ (k : Int) < acts.length := by omega
        replace hc := Lib.hid hc
        go_wp2
        go_ret
        exact .inr ⟨gb, gs, po, cap, q, rfl, hP.out, hM.out, hBr.out⟩
end Go.Proofs.Ytpjajiambbobhaa

/- fleet.lines: the lines of a text that say something, with their numbers: the iterator's contract. -/
import Derived.Test.YteoihdkaoipocaaDoorNod
import Derived.Test.YteoihdkaoipocaaDoorRgf
import Derived.RangeFuncNested
import Derived.RangeFuncBound
import Derived.RangeFuncCalls
import Derived.Shelf.Abstract
import Derived.Shelf.RegionOpen
import Derived.OwnWalkIn
import Derived.TacticsInMore
import Derived.LoopNIn
import Derived.LoopIn
namespace Go.Proofs.YteoihdkaoipocaaDoor
open Go.RowKit Go.Shelf
attribute [local go_sem] Oper.semAt_some

/-- does a line say something? -/
def saysB (l : List UInt8) : Bool := match l with | [] => false | c :: _ => decide (c ≠ 35)
/-- the lines that say something, numbered behind n -/
def said : Nat → List (List UInt8) → List (Int × ByteArray)
  | _, [] => []
  | n, p :: ps => if saysB p = true then (((n : Int) + 1), ofL p) :: said (n + 1) ps else said (n + 1) ps
def linesOf (s : ByteArray) : List (Int × ByteArray) := said 0 (cutAll 10 s.data.toList)
abbrev encL (x : Int × ByteArray) : Array Value := #[.int .i64 x.1, .string x.2]
theorem said_nil (n : Nat) : said n (cutAll 10 []) = [] := rfl

structure LiW (W0 : World) (Bt : Nat) (rest : List UInt8) (W : World) : Prop where
  box : W.heap[Bt]? = some (.cells #[.string (ofL rest)] 9 (0, 0))
  mx : Mx W
theorem Mx.of_blk {w w' : World} (h : Mx w) (hb : w'.heap[0]? = w.heap[0]?) : Mx w' := by
  obtain ⟨m, h⟩ := h
  exact ⟨m, (World.cell?_of_block (a := ⟨0, 0, none⟩) (w := w) hb).trans h⟩
theorem grown_drewN (w : World) (n : Nat) (row : Option Nat) : w.grownBy (w.drewN n) row := ⟨rfl, rfl, rfl, Nat.le_refl _, fun _ _ _ => rfl⟩
theorem grown_setCell (w : World) (b o : Nat) (v : Value) : w.grownBy (w.setCell ⟨b, o, none⟩ v) (some b) :=
  ⟨rfl, rfl, rfl, by simp [World.setCell], fun k _ hk => Below.heap_setCell _ _ _ _ (fun e => hk (by rw [e]))⟩

theorem ofL_emp (l : List UInt8) : (ofL l).toList.isEmpty = l.isEmpty := by rw [Lib.toList_data, ofL_toL]
theorem liw_set {w0 w1 : World} {Bt : Nat} {rest r : List UInt8} (h : LiW w0 Bt rest w1) (hB : 0 < Bt) : LiW w0 Bt r (w1.setCell ⟨Bt, 0, none⟩ (.string (ofL r))) :=
  ⟨by rw [blk_set h.box]; rfl, h.mx.of_blk (Below.heap_setCell _ _ _ _ (by simp; omega))⟩
set_option maxRecDepth 100000 in
set_option maxHeartbeats 6400000 in
theorem lines_seq (n : Nat) (hn : 3 ≤ n) (Bt : Nat) (s : ByteArray) (w0 : World) (hs : s.size ≤ 4294967200) (hbox : w0.heap[Bt]? = some (.cells #[.string s] 9 (0, 0))) (hmx : Mx w0) (hBt : 0 < Bt) :
    SeqBox Fence.wide n Tryd.prog 122 #[.pointer (some ⟨Bt, 0, none⟩)] encL Bt (linesOf s) w0 := by
  intro l J Jx W hbW hJ hJx hY h0
  have hL0 : LiW w0 Bt s.data.toList W := ⟨blk_below hbW hbox (blk_lt hbox), hmx.low hbW⟩
  clear hbox hmx hbW
  replace hJ := Lib.hid hJ; replace hJx := Lib.hid hJx; replace hL0 := Lib.hid hL0
  have hY' := Lib.hid hY
  clear hY
  have h0' := Lib.hid h0
  clear h0
  refine callsIn_of_wp Tryd.func122 rfl trivial ?_ rfl
  simp only [Tryd.ntmps122, List.size_toArray, List.length_cons, List.length_nil, Nat.reduceAdd, Nat.reduceSub, Array.replicate_succ, Array.replicate_zero, List.push_toArray, List.append_toArray, List.nil_append, List.cons_append]
  gi_wp2
  gi_loopw [3, 4, 5, 6] (fun i _ _ _ wr => ∃ (k : Nat) (done : List (Int × ByteArray)) (rest : List UInt8), i = .int .i64 k ∧ k + rest.length ≤ s.size ∧ Hid (linesOf s = done ++ said k (cutAll 10 rest)) ∧ Hid (LiW w0 Bt rest wr) ∧ Hid (J done wr)) (fun i _ _ _ wr => s.size - (intOf i).toNat)
  case atStart => exact ⟨0, [], s.data.toList, rfl, by rw [toL_len]; omega, rfl, hL0.out, h0'.out⟩
  case round =>
    obtain ⟨k, done, rest, rfl, hk, hD, hL, hJd⟩ := hrel
    have bx := blk_cell hL.out.box 0
    have bf := blk_free hL.out.box 0
    simp at bx
    cases rest with
    | nil =>
      have e1 : (linesOf s) = done := by rw [hD.out, said_nil, List.append_nil]
      have em : (ofL ([] : List UInt8)).toList.isEmpty = true := ofL_emp []
      replace e1 := Lib.hid e1
      gi_wp2
      go_end0
      exact ⟨⟨_, rfl⟩, .inl (by rw [e1.out]; exact hJd.out)⟩
    | cons c rs =>
      have em : (ofL (c :: rs)).toList.isEmpty = false := ofL_emp (c :: rs)
      have hct := cut_call (ofL (c :: rs)) 10 wr hL.out.mx (by rw [ofL_size]; omega)
      rw [ofL_toL] at hct
      obtain ⟨rest, hrest⟩ : ∃ rest, rest = c :: rs := ⟨_, rfl⟩
      have hrl : 1 ≤ rest.length := by rw [hrest]; simp
      rw [← hrest] at bx em hct hk hD hL
      clear hrest
      replace hct := Lib.hid hct
      gi_wp2
      refine ⟨trivial, fun _ => by omega, (callsIn_wide.2 hct.out).mono ?_⟩
      rintro e w1 ⟨⟨a, r, b, rfl, hab⟩, nd, rfl⟩
      have hsd : said k (cutAll 10 rest) = (if saysB a = true then [(((k : Int) + 1), ofL a)] else []) ++ said (k + 1) (cutAll 10 r) := by
        rcases hab with ⟨_, e1, e2, e3⟩ | ⟨_, e1, e3⟩
        · rw [← e1, cutAll_no e3, e2, said_nil]
          unfold said
          split <;> rfl
        · rw [e1, cutAll_hit e3, said]
          split <;> rfl
      have hkr : (k + 1) + r.length ≤ s.size := by
        rcases hab with ⟨_, e1, e2, e3⟩ | ⟨_, e1, e3⟩
        · rw [e2]; simp; omega
        · have := congrArg List.length e1; simp at this; omega
      have hL1 : LiW w0 Bt rest (wr.drewN nd) := ⟨hL.out.box, hL.out.mx⟩
      have hJ1 : J done (wr.drewN nd) := hJ.out done wr _ hJd.out (grown_drewN wr nd _)
      have hal : a.length ≤ s.size := by
        rcases hab with ⟨_, e1, e2, e3⟩ | ⟨_, e1, e3⟩
        · rw [e1]; omega
        · have := congrArg List.length e1; simp at this; omega
      replace hab := Lib.hid hab; replace hsd := Lib.hid hsd; replace hL1 := Lib.hid hL1; replace hJ1 := Lib.hid hJ1
      obtain ⟨w1, hw1⟩ : ∃ w1, w1 = wr.drewN nd := ⟨_, rfl⟩
      have bx1 : w1.cell? ⟨Bt, 0, none⟩ = some (.string (ofL rest)) := by rw [hw1]; exact bx
      have bf1 : w1.frozen? ⟨Bt, 0, none⟩ = false := by rw [hw1]; exact bf
      have hL1' := hL1.out
      have hJ1' := hJ1.out
      rw [← hw1] at hL1' hJ1' ⊢
      replace hL1' := Lib.hid hL1'; replace hJ1' := Lib.hid hJ1'; replace hw1 := Lib.hid hw1
      clear bx bf em
      cases a with
      | nil =>
        have em2 : (ofL ([] : List UInt8)).toList.isEmpty = true := ofL_emp []
        have hD2 : linesOf s = done ++ said (k + 1) (cutAll 10 r) := by rw [hD.out, hsd.out]; rfl
        have hL2 : LiW w0 Bt r (w1.setCell ⟨Bt, 0, none⟩ (.string (ofL r))) := liw_set hL1'.out hBt
        have hJ2 : J done (w1.setCell ⟨Bt, 0, none⟩ (.string (ofL r))) := hJ.out done w1 _ hJ1'.out (grown_setCell _ _ _ _)
        replace hD2 := Lib.hid hD2; replace hL2 := Lib.hid hL2; replace hJ2 := Lib.hid hJ2
        gi_wp2
        refine ⟨fun _ h => (by cases h), ?_⟩
        gi_wp2
        go_roundw
        case rel => exact ⟨k + 1, done, r, by go_num, hkr, hD2.out, hL2.out, hJ2.out⟩
        case measure => simp [intOf]; omega
      | cons c' a' =>
        have em2 : (ofL (c' :: a')).toList.isEmpty = false := ofL_emp (c' :: a')
        have hi0 : ∀ w, (Instr.index 9 (.string (ofL (c' :: a'))) (.int .i64 0)).run Tryd.prog w = .ok (.int .u8 (chz (ofL (c' :: a')) 0)) w := fun w => index_at Tryd.underlying9 (ofL (c' :: a')) 0 0 rfl (by rw [ofL_size]; simp) w
        have hch : chz (ofL (c' :: a')) 0 = (c'.toNat : Int) := by unfold chz; rw [ofL_toL]; rfl
        have hsy : saysB (c' :: a') = decide (chz (ofL (c' :: a')) 0 ≠ 35) := by
          rw [hch]
          unfold saysB
          refine decide_eq_decide.2 (not_congr ⟨fun h => by rw [h]; rfl, fun h => UInt8.toNat_inj.1 (by have : (35 : UInt8).toNat = 35 := rfl; omega)⟩)
        obtain ⟨x, hx⟩ : ∃ x, x = chz (ofL (c' :: a')) 0 := ⟨_, rfl⟩
        rw [← hx] at hi0 hsy
        obtain ⟨a, ha⟩ : ∃ a, a = c' :: a' := ⟨_, rfl⟩
        rw [← ha] at em2 hi0 hsy hsd hal
        rw [← ha]
        replace hch := Lib.hid hch; replace hx := Lib.hid hx; replace ha := Lib.hid ha
        by_cases h35 : x = 35
        · have d35 : (x != 35) = false := by simp [h35]
          have hD2 : linesOf s = done ++ said (k + 1) (cutAll 10 r) := by
            rw [hD.out, hsd.out, if_neg (by rw [hsy]; simp [h35])]; rfl
          have hL2 : LiW w0 Bt r (w1.setCell ⟨Bt, 0, none⟩ (.string (ofL r))) := liw_set hL1'.out hBt
          have hJ2 : J done (w1.setCell ⟨Bt, 0, none⟩ (.string (ofL r))) := hJ.out done w1 _ hJ1'.out (grown_setCell _ _ _ _)
          replace hD2 := Lib.hid hD2; replace hL2 := Lib.hid hL2; replace hJ2 := Lib.hid hJ2; replace h35 := Lib.hid h35; replace hsy := Lib.hid hsy
          gi_wp2
          refine ⟨fun _ h => (by cases h), ?_⟩
          gi_wp2
          go_roundw
          case rel => exact ⟨k + 1, done, r, by go_num, hkr, hD2.out, hL2.out, hJ2.out⟩
          case measure => simp [intOf]; omega
        · have d35 : (x != 35) = true := by simp [h35]
          have hD2 : linesOf s = (done ++ [(((k : Int) + 1), ofL a)]) ++ said (k + 1) (cutAll 10 r) := by
            rw [hD.out, hsd.out, if_pos (by rw [hsy]; simp [h35]), List.append_assoc]
          have hpre : (done ++ [(((k : Int) + 1), ofL a)]) <+: linesOf s := ⟨_, hD2.symm⟩
          obtain ⟨fn, tmps, assign, body, hy, hR⟩ := hY'.out done (((k : Int) + 1), ofL a) w1 hJ1'.out hpre
          replace hD2 := Lib.hid hD2; replace hpre := Lib.hid hpre; replace h35 := Lib.hid h35; replace hsy := Lib.hid hsy
          gi_wp2
          refine ⟨fun _ => by omega, hR.mono ?_⟩
          rintro e W3 (⟨rfl, hJ3, hb3, h03⟩ | ⟨rfl, hJx3⟩)
          · have hL3 : LiW w0 Bt rest W3 := ⟨hb3.trans hL1'.out.box, hL1'.out.mx.of_blk h03⟩
            have bx3 := blk_cell hL3.box 0
            have bf3 := blk_free hL3.box 0
            simp at bx3
            have hL2 : LiW w0 Bt r (W3.setCell ⟨Bt, 0, none⟩ (.string (ofL r))) := liw_set hL3 hBt
            have hJ2 : J (done ++ [(((k : Int) + 1), ofL a)]) (W3.setCell ⟨Bt, 0, none⟩ (.string (ofL r))) := hJ.out _ W3 _ hJ3 (grown_setCell _ _ _ _)
            clear bx1 bf1
            replace hL3 := Lib.hid hL3; replace hJ3 := Lib.hid hJ3; replace hb3 := Lib.hid hb3; replace h03 := Lib.hid h03; replace hL2 := Lib.hid hL2; replace hJ2 := Lib.hid hJ2
            gi_wp2
            go_roundw
            case rel => exact ⟨k + 1, done ++ [(((k : Int) + 1), ofL a)], r, by go_num, hkr, hD2.out, hL2.out, hJ2.out⟩
            case measure => simp [intOf]; omega
          · have hJx3' := Lib.hid hJx3
            clear hJx3
            gi_wp2
            refine bodyPost_ret (results_none rfl _ _ _) rfl ?_
            exact ⟨⟨_, rfl⟩, .inr ⟨done, (((k : Int) + 1), ofL a), hpre.out, hJx3'.out⟩⟩
end Go.Proofs.YteoihdkaoipocaaDoor

/- The walk of OrganiserNil at a short UID. -/
import Derived.Test.YtfejddjefapciaaGreatDoorNm
namespace Go.Proofs.YtfejddjefapciaaGreatDoor
open Go.RowKit

theorem belowThen {a b c : World} {B : Nat} (h : Below B a b) (k : Below b.heap.size b c) (hB : B ≤ b.heap.size) : Below B a c := h.trans (k.mono hB)
set_option maxRecDepth 100000 in
set_option maxHeartbeats 4000000 in
theorem short_walk (s : ByteArray) (n : Int) (w : World) (hs : s.size ≤ 200) :
    Calls Tryz.prog 3 #[.string s, .int .i64 n] w fun r w' => r = .returned (.bool true) ∧ Below w.heap.size w w' := by
  have hf : ∀ W : World, (Instr.field 61 (.agg #[.int .i64 0, .int .i64 0, .int .i64 0, .bool false]) 3).run Tryz.prog W = .ok (.bool false) W := fun _ => by kernel_rfl
  go_enter Tryz.func3, Tryz.ntmps3
  go_wp2_with fail
  refine (awake_any _).mono ?_
  rintro e w1 ⟨rfl, hb1⟩
  go_wp2_with fail
  refine (ask_nil _ _ _).mono ?_
  rintro e w2 ⟨rfl, hb2⟩
  go_wp2_with fail
  refine (change_nil _ _ _).mono ?_
  rintro e w3 ⟨rfl, hb3⟩
  go_wp2_with fail
  refine (cancel_nil _ _ _ _).mono ?_
  rintro e w4 ⟨rfl, hb4⟩
  go_wp2_with fail
  refine (settle_nil _ _ _).mono ?_
  rintro e w5 ⟨rfl, hb5⟩
  go_wp2_with fail
  refine (publish_nil _ _).mono ?_
  rintro e w6 ⟨rfl, hb6⟩
  go_wp2_with fail
  refine (take_nil _ _ _).mono ?_
  rintro e w7 ⟨rfl, hb7⟩
  go_wp2_with fail
  refine (meeting_nil _ _).mono ?_
  rintro e w8 ⟨rfl, hb8⟩
  go_wp2_with (refine wpList_store_row rfl 51 (.tmp 18) (.tmp 82) rfl w8.heap.size #[.string ⟨#[]⟩, .int .i64 0, .int .i64 0, .int .i64 0, .int .i64 0, .string ⟨#[]⟩, .bool false, .int .i64 0, .int .i64 0, .int .i64 0, .int .i64 0, .int .i64 0, .string ⟨#[]⟩, .bool false, .int .i64 0, .slice none 0 0, .slice none 0 0, .slice none 0 0, .slice none 0 0, .slice none 0 0, .slice none 0 0, .slice none 0 0, .slice none 0 0, .slice none 0 0, .slice none 0 0, .slice none 0 0, .int .i64 0, .string ⟨#[]⟩, .string ⟨#[]⟩, .int .i64 0, .string ⟨#[]⟩, .slice none 0 0, .bool false, .int .i64 0, .int .i64 0, .string ⟨#[]⟩, .bool false, .slice none 0 0, .slice none 0 0, .slice none 0 0] rfl rfl 51 #[.string ⟨#[]⟩, .int .i64 0, .int .i64 0, .int .i64 0, .int .i64 0, .string ⟨#[]⟩, .bool false, .int .i64 0, .int .i64 0, .int .i64 0, .int .i64 0, .int .i64 0, .string ⟨#[]⟩, .bool false, .int .i64 0, .slice none 0 0, .slice none 0 0, .slice none 0 0, .slice none 0 0, .slice none 0 0, .slice none 0 0, .slice none 0 0, .slice none 0 0, .slice none 0 0, .slice none 0 0, .slice none 0 0, .int .i64 0, .string ⟨#[]⟩, .string ⟨#[]⟩, .int .i64 0, .string ⟨#[]⟩, .slice none 0 0, .bool false, .int .i64 0, .int .i64 0, .string ⟨#[]⟩, .bool false, .slice none 0 0, .slice none 0 0, .slice none 0 0] (heap_alloc_last w8 _) size51 (by kernel_rfl) (by kernel_rfl) ?_; rw [World.setRow_alloc_new])
  have z2 := Nat.le_trans hb1.size hb2.size
  have z3 := Nat.le_trans z2 hb3.size
  have z4 := Nat.le_trans z3 hb4.size
  have z5 := Nat.le_trans z4 hb5.size
  have z6 := Nat.le_trans z5 hb6.size
  have z7 := Nat.le_trans z6 hb7.size
  have z8 := Nat.le_trans z7 hb8.size
  have hb8' : Below w.heap.size w (w8.alloc (.cells #[.string ⟨#[]⟩, .int .i64 0, .int .i64 0, .int .i64 0, .int .i64 0, .string ⟨#[]⟩, .bool false, .int .i64 0, .int .i64 0, .int .i64 0, .int .i64 0, .int .i64 0, .string ⟨#[]⟩, .bool false, .int .i64 0, .slice none 0 0, .slice none 0 0, .slice none 0 0, .slice none 0 0, .slice none 0 0, .slice none 0 0, .slice none 0 0, .slice none 0 0, .slice none 0 0, .slice none 0 0, .slice none 0 0, .int .i64 0, .string ⟨#[]⟩, .string ⟨#[]⟩, .int .i64 0, .string ⟨#[]⟩, .slice none 0 0, .bool false, .int .i64 0, .int .i64 0, .string ⟨#[]⟩, .bool false, .slice none 0 0, .slice none 0 0, .slice none 0 0] 51)) := (((((((hb1.trans (hb2.mono hb1.size)).trans (hb3.mono z2)).trans (hb4.mono z3)).trans (hb5.mono z4)).trans (hb6.mono z5)).trans (hb7.mono z6)).trans (hb8.mono z7)).alloc z8 _
  generalize w8.alloc (.cells #[.string ⟨#[]⟩, .int .i64 0, .int .i64 0, .int .i64 0, .int .i64 0, .string ⟨#[]⟩, .bool false, .int .i64 0, .int .i64 0, .int .i64 0, .int .i64 0, .int .i64 0, .string ⟨#[]⟩, .bool false, .int .i64 0, .slice none 0 0, .slice none 0 0, .slice none 0 0, .slice none 0 0, .slice none 0 0, .slice none 0 0, .slice none 0 0, .slice none 0 0, .slice none 0 0, .slice none 0 0, .slice none 0 0, .int .i64 0, .string ⟨#[]⟩, .string ⟨#[]⟩, .int .i64 0, .string ⟨#[]⟩, .slice none 0 0, .bool false, .int .i64 0, .int .i64 0, .string ⟨#[]⟩, .bool false, .slice none 0 0, .slice none 0 0, .slice none 0 0] 51) = w8' at *
  refine (said_nil _ _).mono ?_
  rintro e w9 ⟨rfl, hb9⟩
  go_wp2_with fail
  refine (proposal_nil _ _).mono ?_
  rintro e w10 ⟨rfl, hb10⟩
  go_wp2_with fail
  refine (uids_nil _).mono ?_
  rintro e w11 ⟨rfl, hb11⟩
  go_wp2_with fail
  refine (answer_nil _ _).mono ?_
  rintro e w12 ⟨rfl, hb12⟩
  go_wp2_with fail
  go_ret
  have y8 := hb8'.size
  have y9 := Nat.le_trans y8 hb9.size
  have y10 := Nat.le_trans y9 hb10.size
  have y11 := Nat.le_trans y10 hb11.size
  exact ⟨rfl, (((hb8'.trans (hb9.mono y8)).trans (hb10.mono y9)).trans (hb11.mono y10)).trans (hb12.mono y11)⟩
end Go.Proofs.YtfejddjefapciaaGreatDoor

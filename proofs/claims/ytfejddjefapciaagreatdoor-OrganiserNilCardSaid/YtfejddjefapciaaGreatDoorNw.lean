/- Walks for OrganiserNil. -/
import Derived.Test.YtfejddjefapciaaGreatDoorProg
import Derived.WalkKit
import Derived.WalkSpells
import Derived.WalkLawsBesides
import Derived.Handy
namespace Go.Proofs.YtfejddjefapciaaGreatDoor
open Go.RowKit

set_option maxRecDepth 100000 in
set_option maxHeartbeats 1000000 in
theorem printable_a (w : World) :
    Calls Tryz.prog 56 #[.string ⟨#[97]⟩] w fun r w' => r = .returned (.bool true) ∧ w = w' := by
  go_enter Tryz.func56, Tryz.ntmps56
  go_wp2
  go_rounds 2
  go_ret
  exact ⟨rfl, rfl⟩
set_option maxRecDepth 100000 in
set_option maxHeartbeats 1000000 in
theorem printable_0 (w : World) :
    Calls Tryz.prog 56 #[.string ⟨#[]⟩] w fun r w' => r = .returned (.bool false) ∧ w = w' := by
  go_enter Tryz.func56, Tryz.ntmps56
  go_wp2
  go_rounds 1
  go_ret
  exact ⟨rfl, rfl⟩
set_option maxRecDepth 100000 in
set_option maxHeartbeats 1000000 in
theorem address_0 (w : World) :
    Calls Tryz.prog 33 #[.string ⟨#[]⟩] w fun r w' => r = .returned (.bool false) ∧ w = w' := by
  go_enter Tryz.func33, Tryz.ntmps33
  go_wp2_with (go_at_call 56; refine (printable_0 _).mono ?_; rintro e w' ⟨rfl, rfl⟩)
  go_ret
  exact ⟨rfl, rfl⟩
set_option maxRecDepth 100000 in
set_option maxHeartbeats 1000000 in
theorem should_1 (w : World) :
    Calls Tryz.prog 120 #[.int .i64 1] w fun r w' => r = .returned (.bool false) ∧ w = w' := by
  go_enter Tryz.func120, Tryz.ntmps120
  go_wp2
  go_ret
  exact ⟨rfl, rfl⟩
theorem run_ib (s : ByteArray) (c : Int) (w : World) : (callFunc 149 #[.string s, .int .u8 c]).run Tryz.prog w = .ok (.value (.int .i64 (firstIdx s c.toNat.toUInt8))) w := by
  rw [run_callFunc_extern (e := Extern.BytealgIndexByte.indexByte) Tryz.func149 (by kernel_rfl) (by kernel_rfl) (by kernel_rfl) (by kernel_rfl), run_indexByte_string]
  rfl
theorem run_ib97 (w : World) : (callFunc 149 #[.string ⟨#[34, 44, 59]⟩, .int .u8 97]).run Tryz.prog w = .ok (.value (.int .i64 (-1))) w := by
  rw [run_ib]
  rfl
set_option maxRecDepth 100000 in
set_option maxHeartbeats 1000000 in
theorem indexRune_a (w : World) :
    Calls Tryz.prog 119 #[.string ⟨#[34, 44, 59]⟩, .int .i32 97] w fun r w' => r = .returned (.int .i64 (-1)) ∧ w = w' := by
  have hib := run_ib97
  go_enter Tryz.func119, Tryz.ntmps119
  go_wp2
  go_ret
  exact ⟨rfl, rfl⟩
theorem below_iter (w : World) (s : ByteArray) (pos : Nat) : Below w.heap.size w (w.iter s pos) := (Below.refl _ _).alloc (Nat.le_refl _) _
set_option maxRecDepth 100000 in
set_option maxHeartbeats 1000000 in
theorem indexAny_a (w : World) :
    Calls Tryz.prog 87 #[.string ⟨#[97]⟩, .string ⟨#[34, 44, 59]⟩] w fun r w' => r = .returned (.int .i64 (-1)) ∧ Below w.heap.size w w' := by
  have hn0 := fun ty => run_next_ascii (P := Tryz.prog) w ⟨#[97]⟩ 0 ty (by decide) (by decide)
  have hn1 := fun ty => run_next_end (P := Tryz.prog) w ⟨#[97]⟩ 1 ty (by decide)
  go_enter Tryz.func87, Tryz.ntmps87
  go_wp2_with (go_at_call 120; refine (should_1 _).mono ?_; rintro e w' ⟨rfl, rfl⟩)
  refine wp_loop_rounds 2 ?_
  rw [rounds_succ]
  go_wp2_with (go_at_call 119; refine (indexRune_a _).mono ?_; rintro e w' ⟨rfl, rfl⟩)
  rw [rounds_succ]
  go_wp2
  go_ret
  exact ⟨rfl, below_iter _ _ _⟩
set_option maxRecDepth 100000 in
set_option maxHeartbeats 1000000 in
theorem containsAny_a (w : World) :
    Calls Tryz.prog 57 #[.string ⟨#[97]⟩, .string ⟨#[34, 44, 59]⟩] w fun r w' => r = .returned (.bool false) ∧ Below w.heap.size w w' := by
  go_enter Tryz.func57, Tryz.ntmps57
  go_wp2_with (go_at_call 87; refine (indexAny_a _).mono ?_; rintro e w' ⟨rfl, hb1⟩)
  go_ret
  exact ⟨rfl, hb1⟩
set_option maxRecDepth 100000 in
set_option maxHeartbeats 1000000 in
theorem address_a (w : World) :
    Calls Tryz.prog 33 #[.string ⟨#[97]⟩] w fun r w' => r = .returned (.bool true) ∧ Below w.heap.size w w' := by
  go_enter Tryz.func33, Tryz.ntmps33
  go_wp2_with (first | (go_at_call 56; refine (printable_a _).mono ?_; rintro e w' ⟨rfl, rfl⟩) | (go_at_call 57; refine (containsAny_a _).mono ?_; rintro e w' ⟨rfl, hb1⟩))
  go_ret
  exact ⟨rfl, hb1⟩
set_option maxRecDepth 100000 in
set_option maxHeartbeats 1000000 in
theorem new_0 (w : World) :
    Calls Tryz.prog 16 #[.string ⟨#[]⟩] w fun r w' => r = .returned (.tuple #[.pointer none, .int .i64 1]) ∧ w = w' := by
  go_enter Tryz.func16, Tryz.ntmps16
  go_wp2_with (go_at_call 33; refine (address_0 _).mono ?_; rintro e w' ⟨rfl, rfl⟩)
  go_ret2
  exact ⟨rfl, rfl⟩
def SomePtr (w : World) (r : Ending) (w' : World) : Prop := (∃ a, r = .returned (.tuple #[.pointer (some a), .int .i64 0])) ∧ Below w.heap.size w w'
set_option maxRecDepth 100000 in
set_option maxHeartbeats 1000000 in
theorem new_a (w : World) : Calls Tryz.prog 16 #[.string ⟨#[97]⟩] w (SomePtr w) := by
  have hmm := @run_makeMap Tryz.prog
  go_enter Tryz.func16, Tryz.ntmps16
  go_wp2_with (go_at_call 33; refine (address_a _).mono ?_; rintro e w' ⟨rfl, hb1⟩)
  go_ret2
  exact ⟨⟨_, rfl⟩, (hb1.alloc hb1.size _).alloc (by have := hb1.size; simp; omega) _⟩
set_option maxRecDepth 100000 in
set_option maxHeartbeats 1000000 in
theorem awake_any (w : World) : Calls Tryz.prog 4 #[] w fun r w' => r = .returned (.bool true) ∧ Below w.heap.size w w' := by
  go_enter Tryz.func4, Tryz.ntmps4
  go_wp2_with fail
  refine (new_a _).mono ?_
  rintro e w1 ⟨⟨a, rfl⟩, hb1⟩
  go_wp2_with (go_at_call 16; refine (new_0 _).mono ?_; rintro e w' ⟨rfl, rfl⟩)
  go_ret
  exact ⟨rfl, hb1⟩
set_option maxRecDepth 100000 in
set_option maxHeartbeats 1000000 in
theorem long_walk (s : ByteArray) (n : Int) (w : World) (hs : 200 < s.size) (hs2 : s.size ≤ 9223372036854775807) :
    Calls Tryz.prog 3 #[.string s, .int .i64 n] w fun r w' => r = .returned (.bool true) ∧ Below w.heap.size w w' := by
  go_enter Tryz.func3, Tryz.ntmps3
  go_wp2_with fail
  refine (awake_any _).mono ?_
  rintro e w1 ⟨rfl, hb1⟩
  go_wp2_with fail
  refine (awake_any _).mono ?_
  rintro e w2 ⟨rfl, hb2⟩
  go_wp2
  go_ret
  exact ⟨rfl, hb1.trans (hb2.mono hb1.size)⟩
set_option maxRecDepth 100000 in
set_option maxHeartbeats 1000000 in
theorem ask_nil (cs : Array Value) (n : Int) (w : World) : Calls Tryz.prog 5 #[.pointer none, .agg cs, .slice none 0 0, .int .i64 n] w fun r w' => r = .returned (.tuple #[.slice none 0 0, .int .i64 1]) ∧ Below w.heap.size w w' := by
  go_enter Tryz.func5, Tryz.ntmps5
  go_wp2
  go_ret2
  first | exact ⟨rfl, Below.refl _ _⟩ | exact ⟨rfl, (Below.refl _ _).alloc (Nat.le_refl _) _⟩
set_option maxRecDepth 100000 in
set_option maxHeartbeats 1000000 in
theorem of_nil (s : ByteArray) (w : World) : Calls Tryz.prog 24 #[.pointer none, .string s] w fun r w' => r = .returned (.pointer none) ∧ w = w' := by
  go_enter Tryz.func24, Tryz.ntmps24
  go_wp2
  go_ret
  exact ⟨rfl, rfl⟩
set_option maxRecDepth 100000 in
set_option maxHeartbeats 1000000 in
theorem cancel_nil (s : ByteArray) (cs : Array Value) (n : Int) (w : World) : Calls Tryz.prog 7 #[.pointer none, .string s, .agg cs, .bool false, .int .i64 n] w fun r w' => r = .returned (.tuple #[.slice none 0 0, .int .i64 1]) ∧ Below w.heap.size w w' := by
  go_enter Tryz.func7, Tryz.ntmps7
  go_wp2
  go_ret2
  first | exact ⟨rfl, Below.refl _ _⟩ | exact ⟨rfl, (Below.refl _ _).alloc (Nat.le_refl _) _⟩
set_option maxRecDepth 100000 in
set_option maxHeartbeats 1000000 in
theorem settle_nil (s : ByteArray) (n : Int) (w : World) : Calls Tryz.prog 8 #[.pointer none, .string s, .string s, .bool true, .int .i64 n] w fun r w' => r = .returned (.tuple #[.slice none 0 0, .int .i64 1]) ∧ Below w.heap.size w w' := by
  go_enter Tryz.func8, Tryz.ntmps8
  go_wp2
  go_ret2
  first | exact ⟨rfl, Below.refl _ _⟩ | exact ⟨rfl, (Below.refl _ _).alloc (Nat.le_refl _) _⟩
set_option maxRecDepth 100000 in
set_option maxHeartbeats 1000000 in
theorem publish_nil (s : ByteArray) (w : World) : Calls Tryz.prog 9 #[.pointer none, .string s, .string s] w fun r w' => r = .returned (.tuple #[.slice none 0 0, .int .i64 1]) ∧ Below w.heap.size w w' := by
  go_enter Tryz.func9, Tryz.ntmps9
  go_wp2
  go_ret2
  first | exact ⟨rfl, Below.refl _ _⟩ | exact ⟨rfl, (Below.refl _ _).alloc (Nat.le_refl _) _⟩
set_option maxRecDepth 100000 in
set_option maxHeartbeats 1000000 in
theorem take_nil (cs : Array Value) (n : Int) (w : World) : Calls Tryz.prog 10 #[.pointer none, .agg cs, .int .i64 n] w fun r w' => r = .returned (.tuple #[.slice none 0 0, .int .i64 1]) ∧ Below w.heap.size w w' := by
  go_enter Tryz.func10, Tryz.ntmps10
  go_wp2
  go_ret2
  first | exact ⟨rfl, Below.refl _ _⟩ | exact ⟨rfl, (Below.refl _ _).alloc (Nat.le_refl _) _⟩
set_option maxRecDepth 100000 in
set_option maxHeartbeats 1000000 in
theorem said_nil (s : ByteArray) (w : World) : Calls Tryz.prog 12 #[.pointer none, .string s] w fun r w' => r = .returned (.tuple #[.int .i64 0, .int .i64 0, .bool false]) ∧ Below w.heap.size w w' := by
  go_enter Tryz.func12, Tryz.ntmps12
  go_wp2
  go_ret3
  first | exact ⟨rfl, Below.refl _ _⟩ | exact ⟨rfl, (Below.refl _ _).alloc (Nat.le_refl _) _⟩
set_option maxRecDepth 100000 in
set_option maxHeartbeats 1000000 in
theorem proposal_nil (s : ByteArray) (w : World) : Calls Tryz.prog 13 #[.pointer none, .string s, .string s] w fun r w' => r = .returned (.tuple #[.int .i64 0, .bool false]) ∧ Below w.heap.size w w' := by
  go_enter Tryz.func13, Tryz.ntmps13
  go_wp2
  go_ret2
  first | exact ⟨rfl, Below.refl _ _⟩ | exact ⟨rfl, (Below.refl _ _).alloc (Nat.le_refl _) _⟩
set_option maxRecDepth 100000 in
set_option maxHeartbeats 1000000 in
theorem uids_nil (w : World) : Calls Tryz.prog 14 #[.pointer none] w fun r w' => r = .returned (.slice none 0 0) ∧ Below w.heap.size w w' := by
  go_enter Tryz.func14, Tryz.ntmps14
  go_wp2
  go_ret
  first | exact ⟨rfl, Below.refl _ _⟩ | exact ⟨rfl, (Below.refl _ _).alloc (Nat.le_refl _) _⟩
set_option maxRecDepth 100000 in
set_option maxHeartbeats 1000000 in
theorem answer_nil (s : ByteArray) (w : World) : Calls Tryz.prog 15 #[.pointer none, .string s, .string s] w fun r w' => r = .returned (.agg #[.int .i64 0, .int .i64 0, .int .i64 0, .bool false]) ∧ Below w.heap.size w w' := by
  go_enter Tryz.func15, Tryz.ntmps15
  go_wp2
  exact bodyPost_ret (v := .agg #[.int .i64 0, .int .i64 0, .int .i64 0, .bool false]) (by simp [results, Tryz.results15, go_sem]) rfl ⟨rfl, (Below.refl _ _).alloc (Nat.le_refl _) _⟩
set_option maxRecDepth 100000 in
set_option maxHeartbeats 1000000 in
theorem change_nil (s : ByteArray) (n : Int) (w : World) : Calls Tryz.prog 6 #[.pointer none, .agg #[.string s, .int .i64 0, .int .i64 0, .int .i64 0, .int .i64 0, .string ⟨#[]⟩, .bool false, .int .i64 0, .int .i64 0, .int .i64 0, .int .i64 0, .int .i64 0, .string ⟨#[]⟩, .bool false, .int .i64 0, .slice none 0 0, .slice none 0 0, .slice none 0 0, .slice none 0 0, .slice none 0 0, .slice none 0 0, .slice none 0 0, .slice none 0 0, .slice none 0 0, .slice none 0 0, .slice none 0 0, .int .i64 0, .string ⟨#[]⟩, .string ⟨#[]⟩, .int .i64 0, .string ⟨#[]⟩, .slice none 0 0, .bool false, .int .i64 0, .int .i64 0, .string ⟨#[]⟩, .bool false, .slice none 0 0], .int .i64 n] w fun r w' => r = .returned (.tuple #[.slice none 0 0, .int .i64 1]) ∧ Below w.heap.size w w' := by
  go_enter Tryz.func6, Tryz.ntmps6
  go_wp2
  go_ret2
  first | exact ⟨rfl, Below.refl _ _⟩ | exact ⟨rfl, (Below.refl _ _).alloc (Nat.le_refl _) _⟩
end Go.Proofs.YtfejddjefapciaaGreatDoor

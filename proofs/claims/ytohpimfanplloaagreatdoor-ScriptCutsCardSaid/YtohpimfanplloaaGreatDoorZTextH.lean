/- script.Text, generic in its callees. -/
import Derived.Test.YtohpimfanplloaaGreatDoorZStM
import Derived.Test.YtohpimfanplloaaGreatDoorZMP
import Derived.Says
import Derived.Outline
import Derived.WalkKit
import Derived.WalkSpells
import Derived.Lib.Hide
set_option linter.unusedVariables false
set_option linter.unusedSimpArgs false
namespace Go.Proofs.YtohpimfanplloaaGreatDoor.TextH
open Go.RowKit Go.Proofs.YtohpimfanplloaaGreatDoorW.PrintWords Go.Proofs.YtohpimfanplloaaGreatDoorW.PrintLast Go.Proofs.YtohpimfanplloaaGreatDoorW.PrintMore Go.Proofs.YtohpimfanplloaaGreatDoor.GC Go.Proofs.YtohpimfanplloaaGreatDoor.StM Go.Proofs.YtohpimfanplloaaGreatDoor.MP
set_option maxRecDepth 100000 in
set_option maxHeartbeats 4000000 in
theorem text_one (a b c x y z : Int) (ex : Go.bits .and .i64 a 255 = x) (ey : Go.bits .and .i64 b 255 = y) (ez : Go.bits .and .i64 c 255 = z) (hx : 0 ≤ x ∧ x ≤ 255) (hy : 0 ≤ y ∧ y ≤ 255) (hz : 0 ≤ z ∧ z ≤ 255) (hr : decide (127 < x) = false) (w : World) (G : World → Prop) (hG : ∀ W, Below w.heap.size w W → G W) (r1 : List Int) (r2 : Int)
    (hb : ∀ W, Calls Tryz.prog 26 #[] W (Ret (.int .i64 1767225600) W)) (hp : ∀ W, G W → Calls Tryz.prog 29 #[.agg #[.int .i64 (x % 2), .int .i64 (1767225600 + (4 + y % 8) * 86400 + (8 + z % 8) * 3600), .int .i64 ((1 + x % 3) * 3600), .bool false, .int .i64 0, .int .i64 0, .int .i64 0, .int .i64 0, .int .i64 0, .bool false, .slice none 0 0, .slice none 0 0, .slice none 0 0, .slice none 0 0, .slice none 0 0, .slice none 0 0, .slice none 0 0, .slice none 0 0, .slice none 0 0, .slice none 0 0, .slice none 0 0]] W (JPost r1 r2 W)) :
    Calls Tryz.prog 16 #[.int .i64 a, .int .i64 b, .int .i64 c] w fun e w' => ∃ v0_ : Value, e = .returned v0_ ∧ Kd.R (Kd.int .u8) 5 w' w.heap.size (fun _ => True) v0_ r1 ∧ Below w.heap.size w w' := by
  have HBn := Lib.hid hb
  have HP := Lib.hid hp
  have HG := Lib.hid hG
  clear hb hp hG
  obtain ⟨hx1, hx2⟩ := hx
  obtain ⟨hy1, hy2⟩ := hy
  obtain ⟨hz1, hz2⟩ := hz
  go_enter Tryz.func16, Tryz.ntmps16
  go_wp2_with fail
  refine (HBn.out _).mono ?_
  rintro e w1 ⟨rfl, hb⟩
  have HB := Lib.hid hb
  clear hb
  have h81 : (Tryz.prog.info? 81).map (·.size) = some 21 := by kernel_rfl
  go_wp2_with (first | (refine wpList_store_blk rfl 81 _ _ rfl w1.heap.size 0 _ rfl rfl #[.int .i64 0, .int .i64 0, .int .i64 0, .bool false, .int .i64 0, .int .i64 0, .int .i64 0, .int .i64 0, .int .i64 0, .bool false, .slice none 0 0, .slice none 0 0, .slice none 0 0, .slice none 0 0, .slice none 0 0, .slice none 0 0, .slice none 0 0, .slice none 0 0, .slice none 0 0, .slice none 0 0, .slice none 0 0] _ 81 (blk_new w1 _) (Nat.le_of_ble_eq_true rfl) rfl h81 rfl ?_; intro w2 hbk hg; (have HK : Hid (w2.heap[w1.heap.size]? = some (.cells #[.int .i64 (x % 2), .int .i64 (1767225600 + (4 + y % 8) * 86400 + (8 + z % 8) * 3600), .int .i64 ((1 + x % 3) * 3600), .bool false, .int .i64 0, .int .i64 0, .int .i64 0, .int .i64 0, .int .i64 0, .bool false, .slice none 0 0, .slice none 0 0, .slice none 0 0, .slice none 0 0, .slice none 0 0, .slice none 0 0, .slice none 0 0, .slice none 0 0, .slice none 0 0, .slice none 0 0, .slice none 0 0] 81 (0, 0))) := Lib.hid hbk); (have HB2 := Lib.hid ((HB.out.alloc HB.out.size _).grown hg (Nat.le_trans HB.out.size (by simp)) (fun k hk => by cases hk; exact HB.out.size))); clear hbk hg) | (refine wpList_load_row rfl 81 _ rfl w1.heap.size rfl 81 _ _ _ HK.out Tryz.underlying81 rfl (by kernel_rfl) ?_))
  refine (HP.out _ (HG.out _ HB2.out)).mono ?_
  rintro e w9 ⟨v0, rfl, hv, hb⟩
  have HV := Lib.hid hv
  have HE := Lib.hid (HB2.out.trans (hb.mono HB2.out.size))
  clear hv hb
  go_wp2
  go_ret
  exact ⟨_, rfl, Kd.R_lower HV.out HB2.out.size, HE.out⟩
set_option maxRecDepth 100000 in
set_option maxHeartbeats 4000000 in
theorem text_rec (a b c x y z : Int) (ex : Go.bits .and .i64 a 255 = x) (ey : Go.bits .and .i64 b 255 = y) (ez : Go.bits .and .i64 c 255 = z) (hx : 0 ≤ x ∧ x ≤ 255) (hy : 0 ≤ y ∧ y ≤ 255) (hz : 0 ≤ z ∧ z ≤ 255) (hr : decide (127 < x) = true) (w : World) (G : World → Prop) (hG : ∀ W, Below w.heap.size w W → G W) (r1 : List Int) (r2 : Int)
    (hb : ∀ W, Calls Tryz.prog 26 #[] W (Ret (.int .i64 1767225600) W)) (hp : ∀ W, G W → Calls Tryz.prog 29 #[.agg #[.int .i64 (x % 2), .int .i64 (1767225600 + (4 + y % 8) * 86400 + (8 + z % 8) * 3600), .int .i64 ((1 + x % 3) * 3600), .bool true, .int .i64 (4 - y % 2), .int .i64 1, .int .i64 (1 + z % 4), .int .i64 0, .int .i64 0, .bool false, .slice none 0 0, .slice none 0 0, .slice none 0 0, .slice none 0 0, .slice none 0 0, .slice none 0 0, .slice none 0 0, .slice none 0 0, .slice none 0 0, .slice none 0 0, .slice none 0 0]] W (JPost r1 r2 W)) :
    Calls Tryz.prog 16 #[.int .i64 a, .int .i64 b, .int .i64 c] w fun e w' => ∃ v0_ : Value, e = .returned v0_ ∧ Kd.R (Kd.int .u8) 5 w' w.heap.size (fun _ => True) v0_ r1 ∧ Below w.heap.size w w' := by
  have HBn := Lib.hid hb
  have HP := Lib.hid hp
  have HG := Lib.hid hG
  clear hb hp hG
  obtain ⟨hx1, hx2⟩ := hx
  obtain ⟨hy1, hy2⟩ := hy
  obtain ⟨hz1, hz2⟩ := hz
  go_enter Tryz.func16, Tryz.ntmps16
  go_wp2_with fail
  refine (HBn.out _).mono ?_
  rintro e w1 ⟨rfl, hb⟩
  have HB := Lib.hid hb
  clear hb
  have h81 : (Tryz.prog.info? 81).map (·.size) = some 21 := by kernel_rfl
  have h79 : (Tryz.prog.info? 79).map (·.size) = some 15 := by kernel_rfl
  have dr : decide (127 < x) = true := hr
  go_wp2_with (first | (refine wpList_store_blk rfl 81 _ _ rfl w1.heap.size 0 _ rfl rfl #[.int .i64 0, .int .i64 0, .int .i64 0, .bool false, .int .i64 0, .int .i64 0, .int .i64 0, .int .i64 0, .int .i64 0, .bool false, .slice none 0 0, .slice none 0 0, .slice none 0 0, .slice none 0 0, .slice none 0 0, .slice none 0 0, .slice none 0 0, .slice none 0 0, .slice none 0 0, .slice none 0 0, .slice none 0 0] _ 81 (blk_new w1 _) (Nat.le_of_ble_eq_true rfl) rfl h81 rfl ?_; intro w2 hbk hg; (have HK : Hid (w2.heap[w1.heap.size]? = some (.cells #[.int .i64 (x % 2), .int .i64 (1767225600 + (4 + y % 8) * 86400 + (8 + z % 8) * 3600), .int .i64 ((1 + x % 3) * 3600), .bool false, .int .i64 0, .int .i64 0, .int .i64 0, .int .i64 0, .int .i64 0, .bool false, .slice none 0 0, .slice none 0 0, .slice none 0 0, .slice none 0 0, .slice none 0 0, .slice none 0 0, .slice none 0 0, .slice none 0 0, .slice none 0 0, .slice none 0 0, .slice none 0 0] 81 (0, 0))) := Lib.hid hbk); (have HB2 := Lib.hid ((HB.out.alloc HB.out.size _).grown hg (Nat.le_trans HB.out.size (by simp)) (fun k hk => by cases hk; exact HB.out.size))); (have f3 := blk_frozen HK.out 3); (have k3 := (blk_cell HK.out 3).trans rfl); clear hbk hg) | (refine wpList_store_blk rfl 79 _ _ rfl w1.heap.size 4 _ rfl rfl #[.int .i64 (x % 2), .int .i64 (1767225600 + (4 + y % 8) * 86400 + (8 + z % 8) * 3600), .int .i64 ((1 + x % 3) * 3600), .bool true, .int .i64 0, .int .i64 0, .int .i64 0, .int .i64 0, .int .i64 0, .bool false, .slice none 0 0, .slice none 0 0, .slice none 0 0, .slice none 0 0, .slice none 0 0, .slice none 0 0, .slice none 0 0, .slice none 0 0, .slice none 0 0, .slice none 0 0, .slice none 0 0] _ 81 (blk_put HK.out 3 (.bool true) rfl) (Nat.le_of_ble_eq_true rfl) rfl h79 rfl ?_; intro w3 hbk hg; (have HK3 : Hid (w3.heap[w1.heap.size]? = some (.cells #[.int .i64 (x % 2), .int .i64 (1767225600 + (4 + y % 8) * 86400 + (8 + z % 8) * 3600), .int .i64 ((1 + x % 3) * 3600), .bool true, .int .i64 (4 - y % 2), .int .i64 1, .int .i64 (1 + z % 4), .int .i64 0, .int .i64 0, .bool false, .slice none 0 0, .slice none 0 0, .slice none 0 0, .slice none 0 0, .slice none 0 0, .slice none 0 0, .slice none 0 0, .slice none 0 0, .slice none 0 0, .slice none 0 0, .slice none 0 0] 81 (0, 0))) := Lib.hid hbk); (have HB3 := Lib.hid ((HB2.out.setCell (p := ⟨w1.heap.size, 3, none⟩) HB.out.size (.bool true)).grown hg (HB2.out.setCell (p := ⟨w1.heap.size, 3, none⟩) HB.out.size (.bool true)).size (fun k hk => by cases hk; exact HB.out.size))); clear hbk hg) | (refine wpList_load_row rfl 81 _ rfl w1.heap.size rfl 81 _ _ _ HK3.out Tryz.underlying81 rfl (by kernel_rfl) ?_))
  refine (HP.out _ (HG.out _ HB3.out)).mono ?_
  rintro e w9 ⟨v0, rfl, hv, hb⟩
  have HV := Lib.hid hv
  have HE := Lib.hid (HB3.out.trans (hb.mono HB3.out.size))
  clear hv hb
  go_wp2
  go_ret
  exact ⟨_, rfl, Kd.R_lower HV.out HB3.out.size, HE.out⟩
end Go.Proofs.YtohpimfanplloaaGreatDoor.TextH

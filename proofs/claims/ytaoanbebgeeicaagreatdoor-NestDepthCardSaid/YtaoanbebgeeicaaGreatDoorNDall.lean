/- NestDepth at every input, out of its cases. -/
import Derived.Test.YtaoanbebgeeicaaGreatDoorND1
import Derived.Test.YtaoanbebgeeicaaGreatDoorND2
import Derived.Test.YtaoanbebgeeicaaGreatDoorND3
import Derived.Test.YtaoanbebgeeicaaGreatDoorND4
import Derived.Test.YtaoanbebgeeicaaGreatDoorND5
import Derived.Test.YtaoanbebgeeicaaGreatDoorND6
import Derived.Test.YtaoanbebgeeicaaGreatDoorND7
import Derived.Test.YtaoanbebgeeicaaGreatDoorND8
import Derived.Test.YtaoanbebgeeicaaGreatDoorND9
import Derived.Test.YtaoanbebgeeicaaGreatDoorND10
import Derived.Test.YtaoanbebgeeicaaGreatDoorND11
import Derived.Test.YtaoanbebgeeicaaGreatDoorND12
import Derived.Test.YtaoanbebgeeicaaGreatDoorND13
import Derived.Test.YtaoanbebgeeicaaGreatDoorND14
namespace Go.Proofs.YtaoanbebgeeicaaGreatDoor.G
open Go Go.RowKit
set_option maxRecDepth 100000
theorem rv_sy {r : Rho} {z : Int} (m : Nat) (c : Int) (h0 : 0 ≤ z) (h1 : z ≤ 255) (hm : 0 < m) (h : z % (m : Int) = c) : RV r (.sy .u8 z m c) (.int .u8 z) := by
  rw [RV]; exact ⟨rfl, by omega, h1, hm, by rw [Int.tmod_eq_emod_of_nonneg h0]; exact h⟩
theorem u8_range {z : Int} (h : (Lit.int .u8 z).wf = true) : 0 ≤ z ∧ z ≤ 255 := by
  simp [Lit.wf, IntKind.min, IntKind.max, IntKind.signed, IntKind.bits] at h
  omega
theorem nestDepth (a b c : Int) {W : World} (wa : (Lit.int .u8 a).wf = true) (wb : (Lit.int .u8 b).wf = true) (wc : (Lit.int .u8 c).wf = true) (hE : Go.Proofs.YtaoanbebgeeicaaGreatDoor.H.ErrTy W) : Calls Tryz.prog 5 #[.int .u8 a, .int .u8 b, .int .u8 c] W fun e W' => e = .returned (.bool true) ∧ Below W.heap.size W W' := by
  obtain ⟨a0, a1⟩ := u8_range wa
  obtain ⟨b0, b1⟩ := u8_range wb
  obtain ⟨c0, c1⟩ := u8_range wc
  have hsz : 1 ≤ W.heap.size := hE.lt
  have R : ∀ (m1 m2 m3 : Nat) (x1 x2 x3 : Int), 0 < m1 → 0 < m2 → 0 < m3 → a % (m1 : Int) = x1 → b % (m2 : Int) = x2 → c % (m3 : Int) = x3 → ∀ r, RVs r [.sy .u8 a m1 x1, .sy .u8 b m2 x2, .sy .u8 c m3 x3] (#[Value.int .u8 a, .int .u8 b, .int .u8 c]).toList :=
    fun m1 m2 m3 x1 x2 x3 h1 h2 h3 e1 e2 e3 r => by simp only [RVs]; exact ⟨_, _, rfl, rv_sy _ _ a0 a1 h1 e1, _, _, rfl, rv_sy _ _ b0 b1 h2 e2, _, _, rfl, rv_sy _ _ c0 c1 h3 e3, rfl⟩
  have h6 : a % 6 = 0 ∨ a % 6 = 1 ∨ a % 6 = 2 ∨ a % 6 = 3 ∨ a % 6 = 4 ∨ a % 6 = 5 := by omega
  rcases h6 with h | h | h | h | h | h
  · have hm : b % 2 = 0 ∨ b % 2 = 1 := by omega
    rcases hm with g | g
    · exact ranK (nd1_0_0 a b c) hE hsz (R _ _ _ _ _ _ (by omega) (by omega) (by omega) (by omega) (by omega) (by omega))
    · exact ranK (nd1_1_0 a b c) hE hsz (R _ _ _ _ _ _ (by omega) (by omega) (by omega) (by omega) (by omega) (by omega))
  · have hm : b % 3 = 0 ∨ b % 3 = 1 ∨ b % 3 = 2 := by omega
    rcases hm with g | g | g
    · exact ranK (nd2_0_0 a b c) hE hsz (R _ _ _ _ _ _ (by omega) (by omega) (by omega) (by omega) (by omega) (by omega))
    · have hc : c % 2 = 0 ∨ c % 2 = 1 := by omega
      rcases hc with j | j
      · exact ranK (nd2_1_0 a b c) hE hsz (R _ _ _ _ _ _ (by omega) (by omega) (by omega) (by omega) (by omega) (by omega))
      · exact ranK (nd2_1_1 a b c) hE hsz (R _ _ _ _ _ _ (by omega) (by omega) (by omega) (by omega) (by omega) (by omega))
    · exact ranK (nd2_2_0 a b c) hE hsz (R _ _ _ _ _ _ (by omega) (by omega) (by omega) (by omega) (by omega) (by omega))
  · have hm : b % 4 = 0 ∨ b % 4 = 1 ∨ b % 4 = 2 ∨ b % 4 = 3 := by omega
    rcases hm with g | g | g | g
    · exact ranK (nd3_0_0 a b c) hE hsz (R _ _ _ _ _ _ (by omega) (by omega) (by omega) (by omega) (by omega) (by omega))
    · have hc : c % 2 = 0 ∨ c % 2 = 1 := by omega
      rcases hc with j | j
      · exact ranK (nd3_1_0 a b c) hE hsz (R _ _ _ _ _ _ (by omega) (by omega) (by omega) (by omega) (by omega) (by omega))
      · exact ranK (nd3_1_1 a b c) hE hsz (R _ _ _ _ _ _ (by omega) (by omega) (by omega) (by omega) (by omega) (by omega))
    · have hc : c % 2 = 0 ∨ c % 2 = 1 := by omega
      rcases hc with j | j
      · exact ranK (nd3_2_0 a b c) hE hsz (R _ _ _ _ _ _ (by omega) (by omega) (by omega) (by omega) (by omega) (by omega))
      · exact ranK (nd3_2_1 a b c) hE hsz (R _ _ _ _ _ _ (by omega) (by omega) (by omega) (by omega) (by omega) (by omega))
    · exact ranK (nd3_3_0 a b c) hE hsz (R _ _ _ _ _ _ (by omega) (by omega) (by omega) (by omega) (by omega) (by omega))
  · have hm : b % 5 = 0 ∨ b % 5 = 1 ∨ b % 5 = 2 ∨ b % 5 = 3 ∨ b % 5 = 4 := by omega
    rcases hm with g | g | g | g | g
    · exact ranK (nd4_0_0 a b c) hE hsz (R _ _ _ _ _ _ (by omega) (by omega) (by omega) (by omega) (by omega) (by omega))
    · have hc : c % 2 = 0 ∨ c % 2 = 1 := by omega
      rcases hc with j | j
      · exact ranK (nd4_1_0 a b c) hE hsz (R _ _ _ _ _ _ (by omega) (by omega) (by omega) (by omega) (by omega) (by omega))
      · exact ranK (nd4_1_1 a b c) hE hsz (R _ _ _ _ _ _ (by omega) (by omega) (by omega) (by omega) (by omega) (by omega))
    · have hc : c % 2 = 0 ∨ c % 2 = 1 := by omega
      rcases hc with j | j
      · exact ranK (nd4_2_0 a b c) hE hsz (R _ _ _ _ _ _ (by omega) (by omega) (by omega) (by omega) (by omega) (by omega))
      · exact ranK (nd4_2_1 a b c) hE hsz (R _ _ _ _ _ _ (by omega) (by omega) (by omega) (by omega) (by omega) (by omega))
    · have hc : c % 2 = 0 ∨ c % 2 = 1 := by omega
      rcases hc with j | j
      · exact ranK (nd4_3_0 a b c) hE hsz (R _ _ _ _ _ _ (by omega) (by omega) (by omega) (by omega) (by omega) (by omega))
      · exact ranK (nd4_3_1 a b c) hE hsz (R _ _ _ _ _ _ (by omega) (by omega) (by omega) (by omega) (by omega) (by omega))
    · exact ranK (nd4_4_0 a b c) hE hsz (R _ _ _ _ _ _ (by omega) (by omega) (by omega) (by omega) (by omega) (by omega))
  · have hm : b % 6 = 0 ∨ b % 6 = 1 ∨ b % 6 = 2 ∨ b % 6 = 3 ∨ b % 6 = 4 ∨ b % 6 = 5 := by omega
    rcases hm with g | g | g | g | g | g
    · exact ranK (nd5_0_0 a b c) hE hsz (R _ _ _ _ _ _ (by omega) (by omega) (by omega) (by omega) (by omega) (by omega))
    · have hc : c % 2 = 0 ∨ c % 2 = 1 := by omega
      rcases hc with j | j
      · exact ranK (nd5_1_0 a b c) hE hsz (R _ _ _ _ _ _ (by omega) (by omega) (by omega) (by omega) (by omega) (by omega))
      · exact ranK (nd5_1_1 a b c) hE hsz (R _ _ _ _ _ _ (by omega) (by omega) (by omega) (by omega) (by omega) (by omega))
    · have hc : c % 2 = 0 ∨ c % 2 = 1 := by omega
      rcases hc with j | j
      · exact ranK (nd5_2_0 a b c) hE hsz (R _ _ _ _ _ _ (by omega) (by omega) (by omega) (by omega) (by omega) (by omega))
      · exact ranK (nd5_2_1 a b c) hE hsz (R _ _ _ _ _ _ (by omega) (by omega) (by omega) (by omega) (by omega) (by omega))
    · have hc : c % 2 = 0 ∨ c % 2 = 1 := by omega
      rcases hc with j | j
      · exact ranK (nd5_3_0 a b c) hE hsz (R _ _ _ _ _ _ (by omega) (by omega) (by omega) (by omega) (by omega) (by omega))
      · exact ranK (nd5_3_1 a b c) hE hsz (R _ _ _ _ _ _ (by omega) (by omega) (by omega) (by omega) (by omega) (by omega))
    · have hc : c % 2 = 0 ∨ c % 2 = 1 := by omega
      rcases hc with j | j
      · exact ranK (nd5_4_0 a b c) hE hsz (R _ _ _ _ _ _ (by omega) (by omega) (by omega) (by omega) (by omega) (by omega))
      · exact ranK (nd5_4_1 a b c) hE hsz (R _ _ _ _ _ _ (by omega) (by omega) (by omega) (by omega) (by omega) (by omega))
    · exact ranK (nd5_5_0 a b c) hE hsz (R _ _ _ _ _ _ (by omega) (by omega) (by omega) (by omega) (by omega) (by omega))
  · have hm : b % 7 = 0 ∨ b % 7 = 1 ∨ b % 7 = 2 ∨ b % 7 = 3 ∨ b % 7 = 4 ∨ b % 7 = 5 ∨ b % 7 = 6 := by omega
    rcases hm with g | g | g | g | g | g | g
    · exact ranK (nd6_0_0 a b c) hE hsz (R _ _ _ _ _ _ (by omega) (by omega) (by omega) (by omega) (by omega) (by omega))
    · have hc : c % 2 = 0 ∨ c % 2 = 1 := by omega
      rcases hc with j | j
      · exact ranK (nd6_1_0 a b c) hE hsz (R _ _ _ _ _ _ (by omega) (by omega) (by omega) (by omega) (by omega) (by omega))
      · exact ranK (nd6_1_1 a b c) hE hsz (R _ _ _ _ _ _ (by omega) (by omega) (by omega) (by omega) (by omega) (by omega))
    · have hc : c % 2 = 0 ∨ c % 2 = 1 := by omega
      rcases hc with j | j
      · exact ranK (nd6_2_0 a b c) hE hsz (R _ _ _ _ _ _ (by omega) (by omega) (by omega) (by omega) (by omega) (by omega))
      · exact ranK (nd6_2_1 a b c) hE hsz (R _ _ _ _ _ _ (by omega) (by omega) (by omega) (by omega) (by omega) (by omega))
    · have hc : c % 2 = 0 ∨ c % 2 = 1 := by omega
      rcases hc with j | j
      · exact ranK (nd6_3_0 a b c) hE hsz (R _ _ _ _ _ _ (by omega) (by omega) (by omega) (by omega) (by omega) (by omega))
      · exact ranK (nd6_3_1 a b c) hE hsz (R _ _ _ _ _ _ (by omega) (by omega) (by omega) (by omega) (by omega) (by omega))
    · have hc : c % 2 = 0 ∨ c % 2 = 1 := by omega
      rcases hc with j | j
      · exact ranK (nd6_4_0 a b c) hE hsz (R _ _ _ _ _ _ (by omega) (by omega) (by omega) (by omega) (by omega) (by omega))
      · exact ranK (nd6_4_1 a b c) hE hsz (R _ _ _ _ _ _ (by omega) (by omega) (by omega) (by omega) (by omega) (by omega))
    · have hc : c % 2 = 0 ∨ c % 2 = 1 := by omega
      rcases hc with j | j
      · exact ranK (nd6_5_0 a b c) hE hsz (R _ _ _ _ _ _ (by omega) (by omega) (by omega) (by omega) (by omega) (by omega))
      · exact ranK (nd6_5_1 a b c) hE hsz (R _ _ _ _ _ _ (by omega) (by omega) (by omega) (by omega) (by omega) (by omega))
    · exact ranK (nd6_6_0 a b c) hE hsz (R _ _ _ _ _ _ (by omega) (by omega) (by omega) (by omega) (by omega) (by omega))
end Go.Proofs.YtaoanbebgeeicaaGreatDoor.G

/-
  SchedUrgent: the run with 2 ticks.
-/
import Derived.Test.YtkecfebodpkamaaGreatSI
set_option linter.unusedSimpArgs false
set_option linter.unusedVariables false
set_option maxRecDepth 100000
noncomputable section
namespace Go.Ev.X
open Go Go.Ev Go.Proofs
def esU2 : List Ent := [⟨11, [(.i .i64 1024), (.si .i64 (.v 0))], 1, (.i .i64 0), (.v 9000)⟩,
  ⟨11, [(.i .i64 1088), (.si .i64 (.v 0))], 2, (.i .i64 0), (.v 9001)⟩,
  ⟨11, [(.i .i64 1152), (.si .i64 (.v 1))], 3, (.i .i64 0), (.v 9002)⟩,
  ⟨12, [(.i .i64 1024)], 4, (.tup []), (.v 9003)⟩,
  ⟨12, [(.i .i64 1088)], 5, (.tup []), (.v 9004)⟩,
  ⟨13, [], 6, (.tup []), (.v 9005)⟩,
  ⟨14, [], 7, (.tup []), (.v 9006)⟩,
  ⟨14, [], 8, (.tup []), (.v 9007)⟩,
  ⟨12, [(.i .i64 1152)], 9, (.tup []), (.v 9008)⟩,
  ⟨13, [], 10, (.tup []), (.v 9009)⟩,
  ⟨15, [], 11, (.i .i64 1152), (.v 9010)⟩,
  ⟨16, [(.si .i64 (.v 0))], 12, (.i .i64 1024), (.v 9011)⟩,
  ⟨17, [(.i .i64 1152), (.i .i64 0)], 13, (.tup []), (.v 9012)⟩,
  ⟨13, [], 14, (.tup []), (.v 9013)⟩,
  ⟨15, [], 15, (.i .i64 1024), (.v 9014)⟩,
  ⟨18, [(.i .i64 1024)], 16, (.tup [(.agg [(.si .i64 (.v 1600)), (.si .i64 (.v 1601)), (.i .i64 3), (.sb (.cmp .eql (.v 1603) (.lit 1))), (.si .i64 (.v 1604)), (.si .i64 (.v 1605)), (.si .i64 (.v 1606)), (.si .i64 (.v 1607)), (.sb (.cmp .eql (.v 1608) (.lit 1))), (.sb (.cmp .eql (.v 1609) (.lit 1))), (.si .i64 (.v 1610)), (.si .i64 (.v 1611)), (.si .i64 (.v 1612)), (.si .i64 (.v 1613)), (.si .u64 (.v 1614)), (.si .u64 (.v 1615)), (.si .u64 (.v 1616)), (.si .u64 (.v 1617)), (.si .u64 (.v 1618)), (.si .u64 (.v 1619)), (.si .u64 (.v 1620)), (.si .u64 (.v 1621)), (.si .u64 (.v 1622)), (.si .u64 (.v 1623)), (.si .u64 (.v 1624)), (.si .u64 (.v 1625)), (.si .u64 (.v 1626)), (.si .u64 (.v 1627)), (.si .u64 (.v 1628)), (.si .u64 (.v 1629))]), (.i .i64 0)]), (.v 9015)⟩]
def cxU2 : Cx := cxM cx0 cP 0 esU2 []
theorem runU2 : callS cxU2 0 (inU (callT cxU2 20)) 3 [.si .i64 (.v 0), .si .i64 (.v 1), .i .i64 2] ⟨.h, .h, .e⟩ ⟨fU, []⟩ (endV (.b true)) = 0 := by decide +kernel
def vsU2 (low high : Int) (u : Nat → Int) (ks : Nat → Int) : Nat → Int := fun i => match i / 100 with
  | 0 => if i = 0 then low else high
  | 16 => fldT (getT u 1024) (regs u 1024) (i % 100)
  | 90 => ks (i % 100)
  | _ => 0
def rowsU2 (u1 u2 u3 u4 u5 u6 u7 u8 u9 u10 : Nat → Int) : Nat → Nat → Int := fun q => match q with | 0 => f0 | 1 => u1 | 2 => u2 | 3 => u3 | 4 => u4 | 5 => u5 | 6 => u6 | 7 => ticks u6 1 | 8 => ticks u6 2 | 9 => u7 | 10 => u8 | 11 => u8 | 12 => u8 | 13 => u9 | 14 => u10 | 15 => u10 | 16 => u10 | _ => u10
theorem urgU2 {low high : Int} (h0 : 0 ≤ low) (h1 : low < high) (h2 : high ≤ 255) (W : World) : Calls PP 3 #[.int .i64 low, .int .i64 high, .int .i64 2] W fun e w' => e = .returned (.bool true) ∧ RowKit.Below W.heap.size W w' := by
  obtain ⟨u1, u2, u3, u4, u5, u6, u7, u8, u9, u10, g⟩ := urg (n := 2) h0 h1 h2 (by omega)
  obtain ⟨m1, m2, m3, m4, m5, m6, mt, m7, m8, mc, mf, m9, m10, md, mh, sl⟩ := g
  obtain ⟨k0, p0, c0⟩ := m1
  obtain ⟨k1, p1, c1⟩ := m2
  obtain ⟨k2, p2, c2⟩ := m3
  obtain ⟨k3, p3, c3⟩ := m4
  obtain ⟨k4, p4, c4⟩ := m5
  obtain ⟨k5, p5, c5⟩ := m6
  obtain ⟨k6, p6, c6⟩ := mt 0 (by omega)
  obtain ⟨k7, p7, c7⟩ := mt 1 (by omega)
  obtain ⟨k8, p8, c8⟩ := m7
  obtain ⟨k9, p9, c9⟩ := m8
  obtain ⟨k10, p10, c10⟩ := mc
  obtain ⟨k11, p11, c11⟩ := mf
  obtain ⟨k12, p12, c12⟩ := m9
  obtain ⟨k13, p13, c13⟩ := m10
  obtain ⟨k14, p14, c14⟩ := md
  obtain ⟨k15, p15, c15⟩ := mh
  obtain ⟨E, hE⟩ : ∃ E, E = envX 8192 0 (vsU2 low high u10 (fun j => match j with | 0 => (k0 : Int) | 1 => (k1 : Int) | 2 => (k2 : Int) | 3 => (k3 : Int) | 4 => (k4 : Int) | 5 => (k5 : Int) | 6 => (k6 : Int) | 7 => (k7 : Int) | 8 => (k8 : Int) | 9 => (k9 : Int) | 10 => (k10 : Int) | 11 => (k11 : Int) | 12 => (k12 : Int) | 13 => (k13 : Int) | 14 => (k14 : Int) | 15 => (k15 : Int) | _ => 0)) (rowsU2 u1 u2 u3 u4 u5 u6 u7 u8 u9 u10) := ⟨_, rfl⟩
  have he : EntsOk PP cP E 0 esU2 := by
    rw [hE]
    exact ⟨ent_y c0 p0 rfl (fun ρ => rfl) (fun ρ => rfl),
      ent_y c1 p1 rfl (fun ρ => rfl) (fun ρ => rfl),
      ent_y c2 p2 rfl (fun ρ => rfl) (fun ρ => rfl),
      ent_y c3 p3 rfl (fun ρ => rfl) (fun ρ => rfl),
      ent_y c4 p4 rfl (fun ρ => rfl) (fun ρ => rfl),
      ent_y c5 p5 rfl (fun ρ => rfl) (fun ρ => rfl),
      ent_y c6 p6 rfl (fun ρ => rfl) (fun ρ => rfl),
      ent_y c7 p7 rfl (fun ρ => rfl) (fun ρ => rfl),
      ent_y c8 p8 rfl (fun ρ => rfl) (fun ρ => rfl),
      ent_y c9 p9 rfl (fun ρ => rfl) (fun ρ => rfl),
      ent_y c10 p10 rfl (fun ρ => rfl) (fun ρ => rfl),
      ent_y c11 p11 rfl (fun ρ => rfl) (fun ρ => rfl),
      ent_y c12 p12 rfl (fun ρ => rfl) (fun ρ => rfl),
      ent_y c13 p13 rfl (fun ρ => rfl) (fun ρ => rfl),
      ent_y c14 p14 rfl (fun ρ => rfl) (fun ρ => rfl),
      ent_y c15 p15 rfl (fun ρ => rfl) (fun ρ => tupT (thG rfl rfl (show Value.int .i64 3 = .int .i64 _ by rw [sl]; rfl) (vsb (sbq rfl)) rfl rfl rfl rfl (vsb (sbq rfl)) (vsb (sbq rfl)) rfl rfl rfl rfl rfl rfl rfl rfl rfl rfl rfl rfl rfl rfl rfl rfl rfl rfl rfl rfl)), trivial⟩
  have hfa : FaOk E ⟨fU, []⟩ := by
    rw [hE]
    exact fa_list ⟨f_ltn h0, f_len h1, f_gtn h2, trivial⟩ trivial
  have hcx : CxOk E PP (tyOf PP) cxU2 := cxM_ok (hC0 E) he (fun e h => by cases h)
  have hin : CallOk E PP (inU (callT cxU2 20)) := inU_ok (by rw [hE]; exact rowF_is 8192 f0) (callT_run hcx 20)
  have := val_of_run hcx hin hfa runU2 ⟨trivial, trivial, trivial, trivial⟩ (fun _ => ⟨0, 0⟩) W
  have ha : (γL E (fun _ => ⟨0, 0⟩) [.si .i64 (.v 0), .si .i64 (.v 1), .i .i64 2]).toArray = #[.int .i64 low, .int .i64 high, .int .i64 2] := by rw [hE]; rfl
  rw [ha] at this
  exact this.mono fun e w' h => by
    obtain ⟨⟨ρ', h1⟩, h2⟩ := h
    exact ⟨h1, h2⟩
end Go.Ev.X
end

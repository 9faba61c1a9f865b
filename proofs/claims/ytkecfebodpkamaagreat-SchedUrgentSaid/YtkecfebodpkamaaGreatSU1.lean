/-
  SchedUrgent: the run with 1 ticks.
-/
import Derived.Test.YtkecfebodpkamaaGreatSI
set_option linter.unusedSimpArgs false
set_option linter.unusedVariables false
set_option maxRecDepth 100000
noncomputable section
namespace Go.Ev.X
open Go Go.Ev Go.Proofs
def esU1 : List Ent := [⟨11, [(.i .i64 1024), (.si .i64 (.v 0))], 1, (.i .i64 0), (.v 9000)⟩,
  ⟨11, [(.i .i64 1088), (.si .i64 (.v 0))], 2, (.i .i64 0), (.v 9001)⟩,
  ⟨11, [(.i .i64 1152), (.si .i64 (.v 1))], 3, (.i .i64 0), (.v 9002)⟩,
  ⟨12, [(.i .i64 1024)], 4, (.tup []), (.v 9003)⟩,
  ⟨12, [(.i .i64 1088)], 5, (.tup []), (.v 9004)⟩,
  ⟨13, [], 6, (.tup []), (.v 9005)⟩,
  ⟨14, [], 7, (.tup []), (.v 9006)⟩,
  ⟨12, [(.i .i64 1152)], 8, (.tup []), (.v 9007)⟩,
  ⟨13, [], 9, (.tup []), (.v 9008)⟩,
  ⟨15, [], 10, (.i .i64 1152), (.v 9009)⟩,
  ⟨16, [(.si .i64 (.v 0))], 11, (.i .i64 1024), (.v 9010)⟩,
  ⟨17, [(.i .i64 1152), (.i .i64 0)], 12, (.tup []), (.v 9011)⟩,
  ⟨13, [], 13, (.tup []), (.v 9012)⟩,
  ⟨15, [], 14, (.i .i64 1024), (.v 9013)⟩,
  ⟨18, [(.i .i64 1024)], 15, (.tup [(.agg [(.si .i64 (.v 1500)), (.si .i64 (.v 1501)), (.i .i64 4), (.sb (.cmp .eql (.v 1503) (.lit 1))), (.si .i64 (.v 1504)), (.si .i64 (.v 1505)), (.si .i64 (.v 1506)), (.si .i64 (.v 1507)), (.sb (.cmp .eql (.v 1508) (.lit 1))), (.sb (.cmp .eql (.v 1509) (.lit 1))), (.si .i64 (.v 1510)), (.si .i64 (.v 1511)), (.si .i64 (.v 1512)), (.si .i64 (.v 1513)), (.si .u64 (.v 1514)), (.si .u64 (.v 1515)), (.si .u64 (.v 1516)), (.si .u64 (.v 1517)), (.si .u64 (.v 1518)), (.si .u64 (.v 1519)), (.si .u64 (.v 1520)), (.si .u64 (.v 1521)), (.si .u64 (.v 1522)), (.si .u64 (.v 1523)), (.si .u64 (.v 1524)), (.si .u64 (.v 1525)), (.si .u64 (.v 1526)), (.si .u64 (.v 1527)), (.si .u64 (.v 1528)), (.si .u64 (.v 1529))]), (.i .i64 0)]), (.v 9014)⟩]
def cxU1 : Cx := cxM cx0 cP 0 esU1 []
theorem runU1 : callS cxU1 0 (inU (callT cxU1 20)) 3 [.si .i64 (.v 0), .si .i64 (.v 1), .i .i64 1] ⟨.h, .h, .e⟩ ⟨fU, []⟩ (endV (.b true)) = 0 := by decide +kernel
def vsU1 (low high : Int) (u : Nat → Int) (ks : Nat → Int) : Nat → Int := fun i => match i / 100 with
  | 0 => if i = 0 then low else high
  | 15 => fldT (getT u 1024) (regs u 1024) (i % 100)
  | 90 => ks (i % 100)
  | _ => 0
def rowsU1 (u1 u2 u3 u4 u5 u6 u7 u8 u9 u10 : Nat → Int) : Nat → Nat → Int := fun q => match q with | 0 => f0 | 1 => u1 | 2 => u2 | 3 => u3 | 4 => u4 | 5 => u5 | 6 => u6 | 7 => ticks u6 1 | 8 => u7 | 9 => u8 | 10 => u8 | 11 => u8 | 12 => u9 | 13 => u10 | 14 => u10 | 15 => u10 | _ => u10
theorem urgU1 {low high : Int} (h0 : 0 ≤ low) (h1 : low < high) (h2 : high ≤ 255) (W : World) : Calls PP 3 #[.int .i64 low, .int .i64 high, .int .i64 1] W fun e w' => e = .returned (.bool true) ∧ RowKit.Below W.heap.size W w' := by
  obtain ⟨u1, u2, u3, u4, u5, u6, u7, u8, u9, u10, g⟩ := urg (n := 1) h0 h1 h2 (by omega)
  obtain ⟨m1, m2, m3, m4, m5, m6, mt, m7, m8, mc, mf, m9, m10, md, mh, sl⟩ := g
  obtain ⟨k0, p0, c0⟩ := m1
  obtain ⟨k1, p1, c1⟩ := m2
  obtain ⟨k2, p2, c2⟩ := m3
  obtain ⟨k3, p3, c3⟩ := m4
  obtain ⟨k4, p4, c4⟩ := m5
  obtain ⟨k5, p5, c5⟩ := m6
  obtain ⟨k6, p6, c6⟩ := mt 0 (by omega)
  obtain ⟨k7, p7, c7⟩ := m7
  obtain ⟨k8, p8, c8⟩ := m8
  obtain ⟨k9, p9, c9⟩ := mc
  obtain ⟨k10, p10, c10⟩ := mf
  obtain ⟨k11, p11, c11⟩ := m9
  obtain ⟨k12, p12, c12⟩ := m10
  obtain ⟨k13, p13, c13⟩ := md
  obtain ⟨k14, p14, c14⟩ := mh
  obtain ⟨E, hE⟩ : ∃ E, E = envX 8192 0 (vsU1 low high u10 (fun j => match j with | 0 => (k0 : Int) | 1 => (k1 : Int) | 2 => (k2 : Int) | 3 => (k3 : Int) | 4 => (k4 : Int) | 5 => (k5 : Int) | 6 => (k6 : Int) | 7 => (k7 : Int) | 8 => (k8 : Int) | 9 => (k9 : Int) | 10 => (k10 : Int) | 11 => (k11 : Int) | 12 => (k12 : Int) | 13 => (k13 : Int) | 14 => (k14 : Int) | _ => 0)) (rowsU1 u1 u2 u3 u4 u5 u6 u7 u8 u9 u10) := ⟨_, rfl⟩
  have he : EntsOk PP cP E 0 esU1 := by
    rw [hE]
    exact ⟨ent_y c0 p0 rfl (fun ρ => rfl) (fun ρ => rfl),
      ent_y c1 p1 rfl (fun ρ => rfl) (fun ρ => rfl),
      ent_y c2 p2 rfl (fun ρ => rfl) (fun ρ => rfl),
      ent_y c3 p3 rfl (fun ρ => rfl) (fun ρ => rfl),
      ent_y c4 p4 rfl (fun ρ => rfl) (fun ρ => rfl),
      ent_y c5 p5 rfl (fun ρ => rfl) (fun ρ => rfl),
      ent_y c6 p6 rfl (fun ρ => rfl) (fun ρ => rfl),
      ent_y c7 p7 rfl (fun ρ => rfl) (fun ρ => rfl),
      ent_y c8 p8 rfl (fun ρ => rfl) (fun ρ => rfl),
      ent_y c9 p9 rfl (fun ρ => rfl) (fun ρ => rfl),
      ent_y c10 p10 rfl (fun ρ => rfl) (fun ρ => rfl),
      ent_y c11 p11 rfl (fun ρ => rfl) (fun ρ => rfl),
      ent_y c12 p12 rfl (fun ρ => rfl) (fun ρ => rfl),
      ent_y c13 p13 rfl (fun ρ => rfl) (fun ρ => rfl),
      ent_y c14 p14 rfl (fun ρ => rfl) (fun ρ => tupT (thG rfl rfl (show Value.int .i64 4 = .int .i64 _ by rw [sl]; rfl) (vsb (sbq rfl)) rfl rfl rfl rfl (vsb (sbq rfl)) (vsb (sbq rfl)) rfl rfl rfl rfl rfl rfl rfl rfl rfl rfl rfl rfl rfl rfl rfl rfl rfl rfl rfl rfl)), trivial⟩
  have hfa : FaOk E ⟨fU, []⟩ := by
    rw [hE]
    exact fa_list ⟨f_ltn h0, f_len h1, f_gtn h2, trivial⟩ trivial
  have hcx : CxOk E PP (tyOf PP) cxU1 := cxM_ok (hC0 E) he (fun e h => by cases h)
  have hin : CallOk E PP (inU (callT cxU1 20)) := inU_ok (by rw [hE]; exact rowF_is 8192 f0) (callT_run hcx 20)
  have := val_of_run hcx hin hfa runU1 ⟨trivial, trivial, trivial, trivial⟩ (fun _ => ⟨0, 0⟩) W
  have ha : (γL E (fun _ => ⟨0, 0⟩) [.si .i64 (.v 0), .si .i64 (.v 1), .i .i64 1]).toArray = #[.int .i64 low, .int .i64 high, .int .i64 1] := by rw [hE]; rfl
  rw [ha] at this
  exact this.mono fun e w' h => by
    obtain ⟨⟨ρ', h1⟩, h2⟩ := h
    exact ⟨h1, h2⟩
end Go.Ev.X
end

/- Plain numbers: the side on which a line passes an edge is the sign of one whole number, which is linear in the origin; what follows of it for triangles. No program here. -/
namespace Go.Proofs.VecMath

structure Vec where
  x : Int
  y : Int
  z : Int

def Vec.in_ (m : Int) (a : Vec) : Prop := (-m ≤ a.x ∧ a.x ≤ m) ∧ (-m ≤ a.y ∧ a.y ≤ m) ∧ (-m ≤ a.z ∧ a.z ≤ m)
instance (m : Int) (a : Vec) : Decidable (a.in_ m) := by unfold Vec.in_; infer_instance
def Vec.zero (a : Vec) : Prop := a.x = 0 ∧ a.y = 0 ∧ a.z = 0
instance (a : Vec) : Decidable a.zero := by unfold Vec.zero; infer_instance

def V0 (o d a b : Vec) : Int :=
  d.x * ((a.y - o.y) * (b.z - o.z) - (a.z - o.z) * (b.y - o.y)) + d.y * ((a.z - o.z) * (b.x - o.x) - (a.x - o.x) * (b.z - o.z)) + d.z * ((a.x - o.x) * (b.y - o.y) - (a.y - o.y) * (b.x - o.x))
def Cx (d a b : Vec) : Int := (a.y - b.y) * d.z - (a.z - b.z) * d.y
def Cy (d a b : Vec) : Int := (a.z - b.z) * d.x - (a.x - b.x) * d.z
def Cz (d a b : Vec) : Int := (a.x - b.x) * d.y - (a.y - b.y) * d.x
def sg (n : Int) : Int := if n < 0 then -1 else if n > 0 then 1 else 0
def lex4 (v x y z : Int) : Int := if sg v = 0 then (if sg x = 0 then (if sg y = 0 then sg z else sg y) else sg x) else sg v
def pS (o d a b : Vec) : Int := lex4 (V0 o d a b) (Cx d a b) (Cy d a b) (Cz d a b)
/-- One number whose sign is the side. -/
def WW (o d a b : Vec) : Int := 1329227995784915872903807060280344576 * V0 o d a b + 1208925819614629174706176 * Cx d a b + 1099511627776 * Cy d a b + Cz d a b
def NX (a b c : Vec) : Int := (b.y - a.y) * (c.z - a.z) - (b.z - a.z) * (c.y - a.y)
def NY (a b c : Vec) : Int := (b.z - a.z) * (c.x - a.x) - (b.x - a.x) * (c.z - a.z)
def NZ (a b c : Vec) : Int := (b.x - a.x) * (c.y - a.y) - (b.y - a.y) * (c.x - a.x)
def num (o a b c : Vec) : Int := NX a b c * (a.x - o.x) + NY a b c * (a.y - o.y) + NZ a b c * (a.z - o.z)
def den (d a b c : Vec) : Int := NX a b c * d.x + NY a b c * d.y + NZ a b c * d.z

theorem mulb {x y A B : Int} (hx : -A ≤ x ∧ x ≤ A) (hy : -B ≤ y ∧ y ≤ B) : -(A * B) ≤ x * y ∧ x * y ≤ A * B := by
  obtain ⟨a, b⟩ := hx
  obtain ⟨c, d⟩ := hy
  have h1 := Int.mul_nonneg (show 0 ≤ A - x by omega) (show 0 ≤ B - y by omega)
  have h2 := Int.mul_nonneg (show 0 ≤ A + x by omega) (show 0 ≤ B + y by omega)
  have h3 := Int.mul_nonneg (show 0 ≤ A - x by omega) (show 0 ≤ B + y by omega)
  have h4 := Int.mul_nonneg (show 0 ≤ A + x by omega) (show 0 ≤ B - y by omega)
  constructor <;> grind

theorem sg_pos {n : Int} : sg n = 1 ↔ 0 < n := by unfold sg; split <;> (try split) <;> constructor <;> intro h <;> omega
theorem sg_neg {n : Int} : sg n = -1 ↔ n < 0 := by unfold sg; split <;> (try split) <;> constructor <;> intro h <;> omega
theorem sg_zero {n : Int} : sg n = 0 ↔ n = 0 := by unfold sg; split <;> (try split) <;> constructor <;> intro h <;> omega
theorem sg_or (n : Int) : sg n = -1 ∨ sg n = 0 ∨ sg n = 1 := by unfold sg; split <;> (try split) <;> simp

/-- The lexical sign is the sign of one number. -/
theorem lex_sg {v x y z : Int} (hx : -17179869184 ≤ x ∧ x ≤ 17179869184) (hy : -17179869184 ≤ y ∧ y ≤ 17179869184) (hz : -17179869184 ≤ z ∧ z ≤ 17179869184) :
    lex4 v x y z = sg (1329227995784915872903807060280344576 * v + 1208925819614629174706176 * x + 1099511627776 * y + z) := by
  unfold lex4 sg
  split <;> split <;> (try split) <;> (try split) <;> (try split) <;> (try split) <;> (try split) <;> (try split) <;> omega

theorem sub_in {a b : Vec} {m n : Int} (ha : a.in_ m) (hb : b.in_ n) : (-(m + n) ≤ a.x - b.x ∧ a.x - b.x ≤ m + n) ∧ (-(m + n) ≤ a.y - b.y ∧ a.y - b.y ≤ m + n) ∧ (-(m + n) ≤ a.z - b.z ∧ a.z - b.z ≤ m + n) := by
  unfold Vec.in_ at *
  omega

theorem C_in {d a b : Vec} (hd : d.in_ 32768) (ha : a.in_ 65536) (hb : b.in_ 65536) :
    (-8589934592 ≤ Cx d a b ∧ Cx d a b ≤ 8589934592) ∧ (-8589934592 ≤ Cy d a b ∧ Cy d a b ≤ 8589934592) ∧ (-8589934592 ≤ Cz d a b ∧ Cz d a b ≤ 8589934592) := by
  obtain ⟨sx, sy, sz⟩ := sub_in ha hb
  obtain ⟨dx, dy, dz⟩ := hd
  have h1 := mulb sy dz
  have h2 := mulb sz dy
  have h3 := mulb sz dx
  have h4 := mulb sx dz
  have h5 := mulb sx dy
  have h6 := mulb sy dx
  unfold Cx Cy Cz
  omega

theorem pS_sg {o d a b : Vec} (hd : d.in_ 32768) (ha : a.in_ 65536) (hb : b.in_ 65536) : pS o d a b = sg (WW o d a b) := by
  obtain ⟨h1, h2, h3⟩ := C_in hd ha hb
  unfold pS WW
  exact lex_sg (by omega) (by omega) (by omega)

theorem WW_anti (o d a b : Vec) : WW o d b a = -WW o d a b := by
  unfold WW V0 Cx Cy Cz
  grind
theorem WW_sum (o d a b c : Vec) : WW o d a b + WW o d b c + WW o d c a = 1329227995784915872903807060280344576 * den d a b c := by
  unfold WW V0 Cx Cy Cz den NX NY NZ
  grind
end Go.Proofs.VecMath

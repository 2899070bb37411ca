/- Layer 2's product by quarters, as the reference tells it. -/
import Derived.Test.YtpfhlimcemkneaaPx9
import Derived.Test.YtpfhlimcemkneaaTh
set_option linter.unusedVariables false
set_option linter.unusedSimpArgs false
namespace Go.Proofs.Ytpfhlimcemkneaa.P
open Go.RowKit Go.Proofs.Th
theorem ref_Times_eq {x y : Int} (x0 : 0 ≤ x) (x1 : x < 18446744073709551616) (y0 : 0 ≤ y) (y1 : y < 18446744073709551616) : pacemakerref02_Times.f x y = some (hi64 (x * y), lo64 (x * y)) := by
  unfold pacemakerref02_Times.f
  rw [and32 x0 x1, and32 y0 y1]
  have hm := mul_parts x y
  have h11 := prod32 (x := x / 4294967296) (y := y / 4294967296) (by omega) (by omega) (by omega) (by omega)
  have h10 := prod32 (x := x / 4294967296) (y := y % 4294967296) (by omega) (by omega) (by omega) (by omega)
  have h01 := prod32 (x := x % 4294967296) (y := y / 4294967296) (by omega) (by omega) (by omega) (by omega)
  have h00 := prod32 (x := x % 4294967296) (y := y % 4294967296) (by omega) (by omega) (by omega) (by omega)
  generalize x / 4294967296 * (y / 4294967296) = p at *
  generalize x / 4294967296 * (y % 4294967296) = q at *
  generalize x % 4294967296 * (y / 4294967296) = r at *
  generalize x % 4294967296 * (y % 4294967296) = s at *
  rw [hm]
  clear hm
  rw [u64_id (x := s) (by omega) (by omega), u64_id (x := q) (by omega) (by omega), u64_id (x := q + s / 4294967296) (by omega) (by omega), u64_id (x := r) (by omega) (by omega), u64_id (x := p) (by omega) (by omega), and32 (by omega) (by omega), and32 (x := s) (by omega) (by omega), u64_id (x := r + (q + s / 4294967296) % 4294967296) (by omega) (by omega)]
  rw [u64_wrap ((r + (q + s / 4294967296) % 4294967296) * 4294967296), or_join 32 (by omega) (by rw [show (2 : Int) ^ 32 = 4294967296 from rfl]; omega) (by omega) (by omega) (by rw [show (2 : Int) ^ 32 = 4294967296 from rfl]; omega) (by omega)]
  simp only [u64_wrap]
  unfold hi64 lo64
  congr 2 <;> omega
end Go.Proofs.Ytpfhlimcemkneaa.P

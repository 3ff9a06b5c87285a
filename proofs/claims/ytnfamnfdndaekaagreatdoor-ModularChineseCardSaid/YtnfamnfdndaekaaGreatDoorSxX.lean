/- Resources in another order: each order that the walks use. -/
import Derived.Test.YtnfamnfdndaekaaGreatDoorSxP
namespace Sx
open Go
section
variable {w0 : World} {ros : List Fact} {rs : List Res} {w : World}
theorem St.k10 {a0 : Res} (h : St w0 ros (a0 :: rs) w) : St w0 ros (rs) w := h.pk 1 [] (by kernel_rfl)
theorem St.k11 {a0 a1 : Res} (h : St w0 ros (a0 :: a1 :: rs) w) : St w0 ros (a1 :: a0 :: rs) w := h.pk 2 [1, 0] (by kernel_rfl)
theorem St.k12 {a0 a1 : Res} (h : St w0 ros (a0 :: a1 :: rs) w) : St w0 ros (a0 :: rs) w := h.pk 2 [0] (by kernel_rfl)
theorem St.k13 {a0 a1 a2 a3 : Res} (h : St w0 ros (a0 :: a1 :: a2 :: a3 :: rs) w) : St w0 ros (rs) w := h.pk 4 [] (by kernel_rfl)
theorem St.k14 {a0 a1 a2 a3 : Res} (h : St w0 ros (a0 :: a1 :: a2 :: a3 :: rs) w) : St w0 ros (a3 :: a2 :: a1 :: a0 :: rs) w := h.pk 4 [3, 2, 1, 0] (by kernel_rfl)
theorem St.k15 {a0 a1 a2 : Res} (h : St w0 ros (a0 :: a1 :: a2 :: rs) w) : St w0 ros (a2 :: a0 :: a1 :: rs) w := h.pk 3 [2, 0, 0] (by kernel_rfl)
theorem St.k16 {a0 a1 a2 a3 : Res} (h : St w0 ros (a0 :: a1 :: a2 :: a3 :: rs) w) : St w0 ros (a3 :: a0 :: a1 :: a2 :: rs) w := h.pk 4 [3, 0, 0, 0] (by kernel_rfl)
theorem St.k17 {a0 a1 a2 : Res} (h : St w0 ros (a0 :: a1 :: a2 :: rs) w) : St w0 ros (a0 :: rs) w := h.pk 3 [0] (by kernel_rfl)
theorem St.k18 {a0 a1 a2 : Res} (h : St w0 ros (a0 :: a1 :: a2 :: rs) w) : St w0 ros (rs) w := h.pk 3 [] (by kernel_rfl)
theorem St.k19 {a0 a1 : Res} (h : St w0 ros (a0 :: a1 :: rs) w) : St w0 ros (rs) w := h.pk 2 [] (by kernel_rfl)
theorem St.k1a {a0 a1 a2 a3 : Res} (h : St w0 ros (a0 :: a1 :: a2 :: a3 :: rs) w) : St w0 ros (a3 :: a0 :: rs) w := h.pk 4 [3, 0] (by kernel_rfl)
theorem St.k1b {a0 a1 a2 a3 : Res} (h : St w0 ros (a0 :: a1 :: a2 :: a3 :: rs) w) : St w0 ros (a3 :: a2 :: a0 :: a1 :: rs) w := h.pk 4 [3, 2, 0, 0] (by kernel_rfl)
theorem St.k1c {a0 a1 a2 : Res} (h : St w0 ros (a0 :: a1 :: a2 :: rs) w) : St w0 ros (a1 :: a0 :: rs) w := h.pk 3 [1, 0] (by kernel_rfl)
theorem St.k1d {a0 a1 a2 : Res} (h : St w0 ros (a0 :: a1 :: a2 :: rs) w) : St w0 ros (a1 :: a2 :: a0 :: rs) w := h.pk 3 [1, 1, 0] (by kernel_rfl)
theorem St.k1e {a0 a1 a2 a3 : Res} (h : St w0 ros (a0 :: a1 :: a2 :: a3 :: rs) w) : St w0 ros (a2 :: a3 :: a0 :: rs) w := h.pk 4 [2, 2, 0] (by kernel_rfl)
theorem St.k1f {a0 a1 a2 a3 : Res} (h : St w0 ros (a0 :: a1 :: a2 :: a3 :: rs) w) : St w0 ros (a1 :: a2 :: a3 :: rs) w := h.pk 4 [1, 1, 1] (by kernel_rfl)
theorem St.k1g {a0 a1 a2 a3 a4 : Res} (h : St w0 ros (a0 :: a1 :: a2 :: a3 :: a4 :: rs) w) : St w0 ros (a2 :: a3 :: a0 :: rs) w := h.pk 5 [2, 2, 0] (by kernel_rfl)
theorem St.k1h {a0 a1 a2 a3 : Res} (h : St w0 ros (a0 :: a1 :: a2 :: a3 :: rs) w) : St w0 ros (a1 :: a0 :: a2 :: a3 :: rs) w := h.pk 4 [1, 0, 0, 0] (by kernel_rfl)
theorem St.k1i {a0 a1 a2 a3 : Res} (h : St w0 ros (a0 :: a1 :: a2 :: a3 :: rs) w) : St w0 ros (a1 :: a0 :: a3 :: a2 :: rs) w := h.pk 4 [1, 0, 1, 0] (by kernel_rfl)
theorem St.k1j {a0 a1 a2 a3 : Res} (h : St w0 ros (a0 :: a1 :: a2 :: a3 :: rs) w) : St w0 ros (a1 :: a2 :: a3 :: a0 :: rs) w := h.pk 4 [1, 1, 1, 0] (by kernel_rfl)
theorem St.k1k {a0 a1 a2 a3 : Res} (h : St w0 ros (a0 :: a1 :: a2 :: a3 :: rs) w) : St w0 ros (a0 :: rs) w := h.pk 4 [0] (by kernel_rfl)
theorem St.k1l {a0 a1 a2 a3 : Res} (h : St w0 ros (a0 :: a1 :: a2 :: a3 :: rs) w) : St w0 ros (a1 :: a2 :: a0 :: a3 :: rs) w := h.pk 4 [1, 1, 0, 0] (by kernel_rfl)
theorem St.k1m {a0 a1 a2 a3 : Res} (h : St w0 ros (a0 :: a1 :: a2 :: a3 :: rs) w) : St w0 ros (a2 :: rs) w := h.pk 4 [2] (by kernel_rfl)
theorem St.k1n {a0 a1 : Res} (h : St w0 ros (a0 :: a1 :: rs) w) : St w0 ros (a1 :: rs) w := h.pk 2 [1] (by kernel_rfl)
theorem St.k1o {a0 a1 a2 : Res} (h : St w0 ros (a0 :: a1 :: a2 :: rs) w) : St w0 ros (a2 :: a0 :: rs) w := h.pk 3 [2, 0] (by kernel_rfl)
theorem St.k1p {a0 a1 a2 : Res} (h : St w0 ros (a0 :: a1 :: a2 :: rs) w) : St w0 ros (a2 :: a1 :: a0 :: rs) w := h.pk 3 [2, 1, 0] (by kernel_rfl)
theorem St.k1q {a0 a1 a2 : Res} (h : St w0 ros (a0 :: a1 :: a2 :: rs) w) : St w0 ros (a1 :: a2 :: rs) w := h.pk 3 [1, 1] (by kernel_rfl)
end
end Sx

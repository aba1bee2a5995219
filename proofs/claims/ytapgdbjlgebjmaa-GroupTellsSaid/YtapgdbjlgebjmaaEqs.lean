/- Which struct types are compared cell by cell. No condition. -/
import Derived.Test.YtapgdbjlgebjmaaSyY
import Derived.Test.YtapgdbjlgebjmaaChecked
import Derived.KernelRfl
namespace Go.Proofs.Ytapgdbjlgebjmaa
open Go Go.Sy
theorem eqlT46 {xs ys : List Value} (hx : kinds [.int .i64, .int .i64, .bool, .bool, .bool, .str] xs = true) (hy : kinds [.int .i64, .int .i64, .bool, .bool, .bool, .str] ys = true) : EqV Try.prog .eql 46 xs ys (eqC xs ys) := eqV_eql (ks := [.int .i64, .int .i64, .bool, .bool, .bool, .str]) (by kernel_rfl) (by kernel_rfl) (by kernel_rfl) hx hy
theorem neqT46 {xs ys : List Value} (hx : kinds [.int .i64, .int .i64, .bool, .bool, .bool, .str] xs = true) (hy : kinds [.int .i64, .int .i64, .bool, .bool, .bool, .str] ys = true) : EqV Try.prog .neq 46 xs ys (!(eqC xs ys)) := eqV_neq (ks := [.int .i64, .int .i64, .bool, .bool, .bool, .str]) (by kernel_rfl) (by kernel_rfl) (by kernel_rfl) hx hy
theorem eqlT48 {xs ys : List Value} (hx : kinds [.int .i64, .int .i64, .int .i64, .bool, .bool, .bool, .str] xs = true) (hy : kinds [.int .i64, .int .i64, .int .i64, .bool, .bool, .bool, .str] ys = true) : EqV Try.prog .eql 48 xs ys (eqC xs ys) := eqV_eql (ks := [.int .i64, .int .i64, .int .i64, .bool, .bool, .bool, .str]) (by kernel_rfl) (by kernel_rfl) (by kernel_rfl) hx hy
theorem neqT48 {xs ys : List Value} (hx : kinds [.int .i64, .int .i64, .int .i64, .bool, .bool, .bool, .str] xs = true) (hy : kinds [.int .i64, .int .i64, .int .i64, .bool, .bool, .bool, .str] ys = true) : EqV Try.prog .neq 48 xs ys (!(eqC xs ys)) := eqV_neq (ks := [.int .i64, .int .i64, .int .i64, .bool, .bool, .bool, .str]) (by kernel_rfl) (by kernel_rfl) (by kernel_rfl) hx hy
theorem eqlT62 {xs ys : List Value} (hx : kinds [.int .i64, .int .i64, .int .i64] xs = true) (hy : kinds [.int .i64, .int .i64, .int .i64] ys = true) : EqV Try.prog .eql 62 xs ys (eqC xs ys) := eqV_eql (ks := [.int .i64, .int .i64, .int .i64]) (by kernel_rfl) (by kernel_rfl) (by kernel_rfl) hx hy
theorem neqT62 {xs ys : List Value} (hx : kinds [.int .i64, .int .i64, .int .i64] xs = true) (hy : kinds [.int .i64, .int .i64, .int .i64] ys = true) : EqV Try.prog .neq 62 xs ys (!(eqC xs ys)) := eqV_neq (ks := [.int .i64, .int .i64, .int .i64]) (by kernel_rfl) (by kernel_rfl) (by kernel_rfl) hx hy
theorem eqlT85 {xs ys : List Value} (hx : kinds [.int .i64, .int .i64, .int .i64] xs = true) (hy : kinds [.int .i64, .int .i64, .int .i64] ys = true) : EqV Try.prog .eql 85 xs ys (eqC xs ys) := eqV_eql (ks := [.int .i64, .int .i64, .int .i64]) (by kernel_rfl) (by kernel_rfl) (by kernel_rfl) hx hy
theorem neqT85 {xs ys : List Value} (hx : kinds [.int .i64, .int .i64, .int .i64] xs = true) (hy : kinds [.int .i64, .int .i64, .int .i64] ys = true) : EqV Try.prog .neq 85 xs ys (!(eqC xs ys)) := eqV_neq (ks := [.int .i64, .int .i64, .int .i64]) (by kernel_rfl) (by kernel_rfl) (by kernel_rfl) hx hy
end Go.Proofs.Ytapgdbjlgebjmaa

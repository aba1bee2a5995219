/- Which struct types are compared cell by cell. No condition. -/
import Derived.Test.YtgndmmbbhfmegaaSyY
import Derived.Test.YtgndmmbbhfmegaaChecked
import Derived.KernelRfl
namespace Go.Proofs.Ytgndmmbbhfmegaa
open Go Go.Sy
theorem eqlT36 {xs ys : List Value} (hx : kinds [.int .i64, .int .i64, .int .i64, .int .i64] xs = true) (hy : kinds [.int .i64, .int .i64, .int .i64, .int .i64] ys = true) : EqV Try.prog .eql 36 xs ys (eqC xs ys) := eqV_eql (ks := [.int .i64, .int .i64, .int .i64, .int .i64]) (by kernel_rfl) (by kernel_rfl) (by kernel_rfl) hx hy
theorem neqT36 {xs ys : List Value} (hx : kinds [.int .i64, .int .i64, .int .i64, .int .i64] xs = true) (hy : kinds [.int .i64, .int .i64, .int .i64, .int .i64] ys = true) : EqV Try.prog .neq 36 xs ys (!(eqC xs ys)) := eqV_neq (ks := [.int .i64, .int .i64, .int .i64, .int .i64]) (by kernel_rfl) (by kernel_rfl) (by kernel_rfl) hx hy
theorem eqlT45 {xs ys : List Value} (hx : kinds [.int .i64, .int .i64, .int .i64] xs = true) (hy : kinds [.int .i64, .int .i64, .int .i64] ys = true) : EqV Try.prog .eql 45 xs ys (eqC xs ys) := eqV_eql (ks := [.int .i64, .int .i64, .int .i64]) (by kernel_rfl) (by kernel_rfl) (by kernel_rfl) hx hy
theorem neqT45 {xs ys : List Value} (hx : kinds [.int .i64, .int .i64, .int .i64] xs = true) (hy : kinds [.int .i64, .int .i64, .int .i64] ys = true) : EqV Try.prog .neq 45 xs ys (!(eqC xs ys)) := eqV_neq (ks := [.int .i64, .int .i64, .int .i64]) (by kernel_rfl) (by kernel_rfl) (by kernel_rfl) hx hy
theorem eqlT57 {xs ys : List Value} (hx : kinds [.int .i64, .int .i64, .bool, .bool, .bool, .str] xs = true) (hy : kinds [.int .i64, .int .i64, .bool, .bool, .bool, .str] ys = true) : EqV Try.prog .eql 57 xs ys (eqC xs ys) := eqV_eql (ks := [.int .i64, .int .i64, .bool, .bool, .bool, .str]) (by kernel_rfl) (by kernel_rfl) (by kernel_rfl) hx hy
theorem neqT57 {xs ys : List Value} (hx : kinds [.int .i64, .int .i64, .bool, .bool, .bool, .str] xs = true) (hy : kinds [.int .i64, .int .i64, .bool, .bool, .bool, .str] ys = true) : EqV Try.prog .neq 57 xs ys (!(eqC xs ys)) := eqV_neq (ks := [.int .i64, .int .i64, .bool, .bool, .bool, .str]) (by kernel_rfl) (by kernel_rfl) (by kernel_rfl) hx hy
end Go.Proofs.Ytgndmmbbhfmegaa

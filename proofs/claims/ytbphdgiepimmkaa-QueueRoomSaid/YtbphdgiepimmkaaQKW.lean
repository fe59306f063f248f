import Derived.Test.YtbphdgiepimmkaaQQR
import Derived.Test.YtbphdgiepimmkaaFr
set_option linter.all false
namespace Go.Proofs.Ytbphdgiepimmkaa
open Go Go.Vc Go.RowKit Go.Proofs Go.Que

theorem walk_QueueRoom (a n : Int) (w : World) (ha : inI a) (hn : inI n) : Calls Try.prog 5 #[.int .i64 a, .int .i64 n] w fun e w' => e = .returned (.bool true) ∧ Ext w w' := QueueRoom_law a n ha hn w
end Go.Proofs.Ytbphdgiepimmkaa

import Derived.Test.YtbphdgiepimmkaaQT
import Derived.Test.YtbphdgiepimmkaaFr
set_option linter.all false
namespace Go.Proofs.Ytbphdgiepimmkaa
open Go Go.Vc Go.RowKit Go.Proofs Go.Que

theorem walk_QueueOnce (a : Option Addr) (len cap : Nat) (z : List Int) (most : Int) (w : World) (hs : RdK w ⟨a, len, cap⟩ 1 (z.map fun n => [.int .i64 n])) (hz : ∀ n ∈ z, (Lit.int .i64 n).wf = true) (_ : len ≤ cap) (hm : inI most) :
    Calls Try.prog 3 #[.slice a len cap, .int .i64 most] w fun e w' => e = .returned (.bool true) ∧ Ext w w' := QueueOnce_law ⟨a, len, cap⟩ z most w hs (fun n h => inI_wf' (hz n h)) hm
theorem walk_QueueSplit (a : Option Addr) (len cap : Nat) (z : List Int) (most : Int) (w : World) (hs : RdK w ⟨a, len, cap⟩ 1 (z.map fun n => [.int .i64 n])) (hz : ∀ n ∈ z, (Lit.int .i64 n).wf = true) (_ : len ≤ cap) (hm : inI most) :
    Calls Try.prog 4 #[.slice a len cap, .int .i64 most] w fun e w' => e = .returned (.bool true) ∧ Ext w w' := QueueSplit_law ⟨a, len, cap⟩ z most w hs (fun n h => inI_wf' (hz n h)) hm
end Go.Proofs.Ytbphdgiepimmkaa

-- Laid by this work's own program; Lean checks it.
import Derived.Test.YtdaoijgnolhnoaaProg
import Derived.Below
import Derived.Deep.Draws
import Derived.Deep.AppendLies
import Derived.Maps.AppendAt
import Derived.OwnWalk
import Derived.Laws.BytesArg
import Derived.Laws.MakeOwn
import Derived.Laws.OwnMore
import Derived.Deep.OwnRows
import Derived.Tactics
import Derived.Lib.ConvBytes
import Derived.Laws.Slices
import Derived.WalkKit
import Derived.KernelRfl
import Derived.RowKit3
import Derived.Deep.LoopGhost
import Derived.Deep.QuietTactic
import Derived.BigQuiet
import Derived.WideLaws
import Derived.Deep.DeepCutAuto
import Derived.Deep.CutBlock
import Derived.Deep.RegionHeld3
import Derived.Laws.Rows
import Derived.Lib.AppendStr
import Derived.ArgAppend
import Derived.Laws.IdiomCopy
import Derived.OrdersHeld
import Derived.Laws.BitsLemmas
import Derived.RowKit
import Derived.Lib.SliceRun
import Derived.ScopeJumps
import Derived.WalkMore
import Derived.Test.YtdaoijgnolhnoaaVWords
import Derived.Test.YtdaoijgnolhnoaaVLast
import Derived.Test.YtdaoijgnolhnoaaVQPut
import Derived.Test.YtdaoijgnolhnoaaVApart
import Derived.Test.YtdaoijgnolhnoaaVArr
import Derived.Test.YtdaoijgnolhnoaaVZeros
import Derived.Test.YtdaoijgnolhnoaaVFoot
import Derived.Test.YtdaoijgnolhnoaaVKept
import Derived.Test.YtdaoijgnolhnoaaVShare
import Derived.Test.YtdaoijgnolhnoaaVN
import Derived.Test.YtdaoijgnolhnoaaVRepsOne
import Derived.Test.YtdaoijgnolhnoaaVGuard
import Derived.Test.YtdaoijgnolhnoaaVNEv
import Derived.Test.YtdaoijgnolhnoaaVMore
namespace Go.Proofs.Ytdaoijgnolhnoaa.PN
open Go.RowKit Go.Proofs.YtdaoijgnolhnoaaW.PrintWords Go.Proofs.YtdaoijgnolhnoaaW.PrintLast Go.Proofs.YtdaoijgnolhnoaaW.PrintMore
attribute [local go_sem] max2_int min2_int max_two min_two max_three min_three max_four min_four   -- for this text's walks alone
set_option linter.unusedVariables false
set_option linter.unusedSimpArgs false



def errW : Option Int → Value
  | none => .nilIface
  | some c => .iface 0 (.int .i64 c)
theorem errW_none : errW none = .nilIface := rfl
theorem errW_some (c : Int) : errW (some c) = .iface 0 (.int .i64 c) := rfl

theorem ob_map (A : Option Addr) (n c : Nat) : (Value.slice A n c).ownBlock = A.map (·.block) := by cases A <;> rfl
theorem rr_len {α : Type} {Rr : α → List Value → Prop} {size : Nat} {w : World} {A : Option Addr} {m n : Nat} {xs : List α} (h : m = n) (hr : ReadsRow Rr size w A m xs) : ReadsRow Rr size w A n xs := h ▸ hr
theorem info34 : (Try.prog.info? 34).map (fun i => (i.zero, i.size, i.bytes)) = some (some (.int .u32 0), 1, 4) := by kernel_rfl
-- the values' own types

end Go.Proofs.Ytdaoijgnolhnoaa.PN

/-
  NARROWER THAN 'FOR EVERY INPUT', by the rows' own cells (each row's printed sentence says how): ServeNews: laid · ServePlays: laid · ServeRaw: laid · ServeFiles: laid · ServeSame: laid.
  DERIVED. THE GIVEN ROWS OF THIS SEAT. 5 by the template 'for every input the law returns true; each argument reads behind the call as it read before'; 0 by the template 'total and deterministic' (their statements: YtlkgdidmhmaneaaGreatDoorTotals.lean).
  GIVEN WITH THE SEED: the statements are not yours to turn. If you find one false, say at which input.
  Laid BY PROGRAM, IN A SANDBOX (cutbox-rows.mjs): the forced cells as the released guide's own fill.sh prints them over the translation c02a366f9d47fb31… (all of the seat's roots in one cut). By AI agents, Wed Nov 11 2026. No macro, syntax, notation, axiom, sorry.
-/
import Derived.Test.YtlkgdidmhmaneaaGreatDoorChecked
import GoSem.Claim
import GoSem.ClaimJoined
import GoSem.ClaimMapViews
import Derived.JoinedTies
import Derived.KernelRfl
namespace Go.Proofs.YtlkgdidmhmaneaaGreatDoor
/- THE CELL 'sum', in the pinned program and in every row, IS THE sha256 OF THE DUMP (.gsa) THAT YtlkgdidmhmaneaaGreatDoorProg.lean LOADS. Nothing in Lean hashes anything: it is a label: what it is worth is what the hold of that sum in a sandbox is worth. -/
noncomputable def Tryz.pinned : Pinned := { name := "ytlkgdidmhmaneaagreatdoor", sum := "c02a366f9d47fb316457eee649b51dff51a451ccd9e2892f94989c4fe0c357d4", checked := Tryz.checked }
namespace Rows
def none {H : Type} : Left H := { results := [], args := [] }

/- WHAT THE LISTED PACKAGE-LEVEL VARIABLES READ AS WHEN THE CALL BEGINS. Each datum BY PROGRAM (the guide's laid-datum.mjs) off the statement by which the dump's own 'gosem.cut.vars' lays the variable. In a bare row this is a premise. The card (YtlkgdidmhmaneaaGreatDoorCards.lean) ties it to the program's text. -/
def laid_truchman_codes_table {H : Type} : DataW H := .agg [.agg [.lit (.int .i64 0), .lit (.int .u32 0), .lit (.int .i64 0), .lit (.string [111, 107])], .agg [.lit (.int .i64 8), .lit (.int .u32 70), .lit (.int .i64 1), .lit (.string [115, 116, 97, 108, 101])], .agg [.lit (.int .i64 9), .lit (.int .u32 2), .lit (.int .i64 2), .lit (.string [110, 111, 32, 115, 117, 99, 104, 32, 110, 97, 109, 101])], .agg [.lit (.int .i64 10), .lit (.int .u32 17), .lit (.int .i64 3), .lit (.string [110, 97, 109, 101, 32, 101, 120, 105, 115, 116, 115])], .agg [.lit (.int .i64 11), .lit (.int .u32 20), .lit (.int .i64 4), .lit (.string [110, 111, 116, 32, 97, 32, 100, 105, 114, 101, 99, 116, 111, 114, 121])], .agg [.lit (.int .i64 12), .lit (.int .u32 21), .lit (.int .i64 5), .lit (.string [105, 115, 32, 97, 32, 100, 105, 114, 101, 99, 116, 111, 114, 121])], .agg [.lit (.int .i64 13), .lit (.int .u32 66), .lit (.int .i64 6), .lit (.string [110, 111, 116, 32, 101, 109, 112, 116, 121])], .agg [.lit (.int .i64 14), .lit (.int .u32 28), .lit (.int .i64 7), .lit (.string [110, 111, 32, 115, 112, 97, 99, 101])], .agg [.lit (.int .i64 15), .lit (.int .u32 27), .lit (.int .i64 8), .lit (.string [116, 111, 111, 32, 98, 105, 103])], .agg [.lit (.int .i64 16), .lit (.int .u32 63), .lit (.int .i64 9), .lit (.string [98, 97, 100, 32, 110, 97, 109, 101])], .agg [.lit (.int .i64 20), .lit (.int .u32 10003), .lit (.int .i64 10), .lit (.string [98, 97, 100, 32, 99, 111, 111, 107, 105, 101])], .agg [.lit (.int .i64 17), .lit (.int .u32 10101), .lit (.int .i64 11), .lit (.string [98, 97, 100, 32, 102, 105, 100])], .agg [.lit (.int .i64 18), .lit (.int .u32 10102), .lit (.int .i64 12), .lit (.string [102, 105, 100, 32, 105, 110, 32, 117, 115, 101])], .agg [.lit (.int .i64 19), .lit (.int .u32 10103), .lit (.int .i64 13), .lit (.string [98, 97, 100, 32, 109, 111, 100, 101])], .agg [.lit (.int .i64 22), .lit (.int .u32 10104), .lit (.int .i64 14), .lit (.string [102, 108, 117, 115, 104, 101, 100])], .agg [.lit (.int .i64 21), .lit (.int .u32 5), .lit (.int .i64 15), .lit (.string [105, 47, 111, 32, 101, 114, 114, 111, 114])], .agg [.lit (.int .i64 7), .lit (.int .u32 10105), .lit (.int .i64 16), .lit (.string [116, 97, 103, 32, 105, 110, 32, 117, 115, 101])], .agg [.lit (.int .i64 5), .lit (.int .u32 10106), .lit (.int .i64 17), .lit (.string [116, 111, 111, 32, 109, 97, 110, 121, 32, 114, 101, 113, 117, 101, 115, 116, 115])], .agg [.lit (.int .i64 2), .lit (.int .u32 10107), .lit (.int .i64 18), .lit (.string [98, 97, 100, 32, 109, 101, 115, 115, 97, 103, 101])]]

/-- 'truchmanlaw16.ServeNews': WHATEVER THE INPUT: true; the input reads as it did. -/
def serveNewsSpec : ChangeSpec := { name := "serveNews", fn := fun _ => fun
  | [d1, d2] => { results := [.lit (.bool true)], args := [d1, d2] }
  | _ => none }
def serveNewsRow : OpenClaim := { program := "ytlkgdidmhmaneaagreatdoor", sum := "c02a366f9d47fb316457eee649b51dff51a451ccd9e2892f94989c4fe0c357d4", func := "truchman/truchmanlaw16.ServeNews", spec := "serveNews", inPlace := ["(*internal/sync.Mutex).Lock", "internal/race.Disable", "sync/atomic.CompareAndSwapInt32", "internal/race.Enable", "internal/race.Acquire", "(*internal/sync.Mutex).lockSlow", "internal/sync.runtime_canSpin", "internal/sync.runtime_doSpin", "internal/sync.throw", "internal/sync.runtime_nanotime", "internal/sync.runtime_SemacquireMutex", "sync/atomic.AddInt32", "(*internal/sync.Mutex).Unlock", "internal/race.ReleaseMerge", "(*internal/sync.Mutex).unlockSlow", "internal/sync.fatal", "internal/sync.runtime_Semrelease", "internal/bytealg.abigen_runtime_cmpstring", "slices.overlaps[truchman/api.Entry]"], unfollowed := true, recurses := true, named := ["truchman/codes.table"], apart := false, laid := [("truchman/codes.table", laid_truchman_codes_table)] }
def ServeNewsSaid : Prop := serveNewsRow.holds Tryz.pinned (OpenSpec.ofChange serveNewsSpec)

/-- ITS FALSE NEIGHBOUR: 'it returns false'. Refute it at one input. -/
def serveNewsWrong : ChangeSpec := { name := "serveNews", fn := fun _ => fun
  | [d1, d2] => { results := [.lit (.bool false)], args := [d1, d2] }
  | _ => none }
def ServeNewsWrongFalsely : Prop := serveNewsRow.holds Tryz.pinned (OpenSpec.ofChange serveNewsWrong)

/-- 'truchmanlaw16.ServePlays': WHATEVER THE INPUT: true; the input reads as it did. -/
def servePlaysSpec : ChangeSpec := { name := "servePlays", fn := fun _ => fun
  | [d1, d2, d3] => { results := [.lit (.bool true)], args := [d1, d2, d3] }
  | _ => none }
def servePlaysRow : OpenClaim := { program := "ytlkgdidmhmaneaagreatdoor", sum := "c02a366f9d47fb316457eee649b51dff51a451ccd9e2892f94989c4fe0c357d4", func := "truchman/truchmanlaw16.ServePlays", spec := "servePlays", inPlace := ["(*internal/sync.Mutex).Lock", "internal/race.Disable", "sync/atomic.CompareAndSwapInt32", "internal/race.Enable", "internal/race.Acquire", "(*internal/sync.Mutex).lockSlow", "internal/sync.runtime_canSpin", "internal/sync.runtime_doSpin", "internal/sync.throw", "internal/sync.runtime_nanotime", "internal/sync.runtime_SemacquireMutex", "sync/atomic.AddInt32", "(*internal/sync.Mutex).Unlock", "internal/race.ReleaseMerge", "(*internal/sync.Mutex).unlockSlow", "internal/sync.fatal", "internal/sync.runtime_Semrelease", "internal/bytealg.abigen_runtime_cmpstring", "slices.overlaps[truchman/api.Entry]"], unfollowed := true, recurses := true, named := ["truchman/codes.table"], apart := false, laid := [("truchman/codes.table", laid_truchman_codes_table)] }
def ServePlaysSaid : Prop := servePlaysRow.holds Tryz.pinned (OpenSpec.ofChange servePlaysSpec)

/-- ITS FALSE NEIGHBOUR: 'it returns false'. Refute it at one input. -/
def servePlaysWrong : ChangeSpec := { name := "servePlays", fn := fun _ => fun
  | [d1, d2, d3] => { results := [.lit (.bool false)], args := [d1, d2, d3] }
  | _ => none }
def ServePlaysWrongFalsely : Prop := servePlaysRow.holds Tryz.pinned (OpenSpec.ofChange servePlaysWrong)

/-- 'truchmanlaw16.ServeRaw': WHATEVER THE INPUT: true; the input reads as it did. -/
def serveRawSpec : ChangeSpec := { name := "serveRaw", fn := fun _ => fun
  | [d1, d2, d3, d4] => { results := [.lit (.bool true)], args := [d1, d2, d3, d4] }
  | _ => none }
def serveRawRow : OpenClaim := { program := "ytlkgdidmhmaneaagreatdoor", sum := "c02a366f9d47fb316457eee649b51dff51a451ccd9e2892f94989c4fe0c357d4", func := "truchman/truchmanlaw16.ServeRaw", spec := "serveRaw", inPlace := ["(*internal/sync.Mutex).Lock", "internal/race.Disable", "sync/atomic.CompareAndSwapInt32", "internal/race.Enable", "internal/race.Acquire", "(*internal/sync.Mutex).lockSlow", "internal/sync.runtime_canSpin", "internal/sync.runtime_doSpin", "internal/sync.throw", "internal/sync.runtime_nanotime", "internal/sync.runtime_SemacquireMutex", "sync/atomic.AddInt32", "(*internal/sync.Mutex).Unlock", "internal/race.ReleaseMerge", "(*internal/sync.Mutex).unlockSlow", "internal/sync.fatal", "internal/sync.runtime_Semrelease", "internal/bytealg.abigen_runtime_cmpstring", "slices.overlaps[truchman/api.Entry]"], unfollowed := true, recurses := true, named := ["truchman/codes.table"], apart := false, laid := [("truchman/codes.table", laid_truchman_codes_table)] }
def ServeRawSaid : Prop := serveRawRow.holds Tryz.pinned (OpenSpec.ofChange serveRawSpec)

/-- ITS FALSE NEIGHBOUR: 'it returns false'. Refute it at one input. -/
def serveRawWrong : ChangeSpec := { name := "serveRaw", fn := fun _ => fun
  | [d1, d2, d3, d4] => { results := [.lit (.bool false)], args := [d1, d2, d3, d4] }
  | _ => none }
def ServeRawWrongFalsely : Prop := serveRawRow.holds Tryz.pinned (OpenSpec.ofChange serveRawWrong)

/-- 'truchmanlaw16.ServeFiles': WHATEVER THE INPUT: true; the input reads as it did. -/
def serveFilesSpec : ChangeSpec := { name := "serveFiles", fn := fun _ => fun
  | [d1, d2, d3] => { results := [.lit (.bool true)], args := [d1, d2, d3] }
  | _ => none }
def serveFilesRow : OpenClaim := { program := "ytlkgdidmhmaneaagreatdoor", sum := "c02a366f9d47fb316457eee649b51dff51a451ccd9e2892f94989c4fe0c357d4", func := "truchman/truchmanlaw16.ServeFiles", spec := "serveFiles", inPlace := ["(*internal/sync.Mutex).Lock", "internal/race.Disable", "sync/atomic.CompareAndSwapInt32", "internal/race.Enable", "internal/race.Acquire", "(*internal/sync.Mutex).lockSlow", "internal/sync.runtime_canSpin", "internal/sync.runtime_doSpin", "internal/sync.throw", "internal/sync.runtime_nanotime", "internal/sync.runtime_SemacquireMutex", "sync/atomic.AddInt32", "(*internal/sync.Mutex).Unlock", "internal/race.ReleaseMerge", "(*internal/sync.Mutex).unlockSlow", "internal/sync.fatal", "internal/sync.runtime_Semrelease", "internal/bytealg.abigen_runtime_cmpstring", "slices.overlaps[truchman/api.Entry]"], unfollowed := true, recurses := true, named := ["truchman/codes.table"], apart := false, laid := [("truchman/codes.table", laid_truchman_codes_table)] }
def ServeFilesSaid : Prop := serveFilesRow.holds Tryz.pinned (OpenSpec.ofChange serveFilesSpec)

/-- ITS FALSE NEIGHBOUR: 'it returns false'. Refute it at one input. -/
def serveFilesWrong : ChangeSpec := { name := "serveFiles", fn := fun _ => fun
  | [d1, d2, d3] => { results := [.lit (.bool false)], args := [d1, d2, d3] }
  | _ => none }
def ServeFilesWrongFalsely : Prop := serveFilesRow.holds Tryz.pinned (OpenSpec.ofChange serveFilesWrong)

/-- 'truchmanlaw16.ServeSame': WHATEVER THE INPUT: true; the input reads as it did. -/
def serveSameSpec : ChangeSpec := { name := "serveSame", fn := fun _ => fun
  | [d1, d2, d3, d4] => { results := [.lit (.bool true)], args := [d1, d2, d3, d4] }
  | _ => none }
def serveSameRow : OpenClaim := { program := "ytlkgdidmhmaneaagreatdoor", sum := "c02a366f9d47fb316457eee649b51dff51a451ccd9e2892f94989c4fe0c357d4", func := "truchman/truchmanlaw16.ServeSame", spec := "serveSame", inPlace := ["(*internal/sync.Mutex).Lock", "internal/race.Disable", "sync/atomic.CompareAndSwapInt32", "internal/race.Enable", "internal/race.Acquire", "(*internal/sync.Mutex).lockSlow", "internal/sync.runtime_canSpin", "internal/sync.runtime_doSpin", "internal/sync.throw", "internal/sync.runtime_nanotime", "internal/sync.runtime_SemacquireMutex", "sync/atomic.AddInt32", "(*internal/sync.Mutex).Unlock", "internal/race.ReleaseMerge", "(*internal/sync.Mutex).unlockSlow", "internal/sync.fatal", "internal/sync.runtime_Semrelease", "internal/bytealg.abigen_runtime_cmpstring", "slices.overlaps[truchman/api.Entry]"], unfollowed := true, recurses := true, named := ["truchman/codes.table"], apart := false, laid := [("truchman/codes.table", laid_truchman_codes_table)] }
def ServeSameSaid : Prop := serveSameRow.holds Tryz.pinned (OpenSpec.ofChange serveSameSpec)

/-- ITS FALSE NEIGHBOUR: 'it returns false'. Refute it at one input. -/
def serveSameWrong : ChangeSpec := { name := "serveSame", fn := fun _ => fun
  | [d1, d2, d3, d4] => { results := [.lit (.bool false)], args := [d1, d2, d3, d4] }
  | _ => none }
def ServeSameWrongFalsely : Prop := serveSameRow.holds Tryz.pinned (OpenSpec.ofChange serveSameWrong)

/- THE SECOND FORM. 'bulk': how many values and letters a reading holds, each counted each time it is reached (what is shared counts as often as it is met; a slice's spare places count too). A statement '..UptoSaid' is the law's where the arguments, and the package variables that the reading takes, are together of bulk at most 1048576: NARROWER than '..Said'. Prove '..Said' where nothing that the law and all that it calls make is longer than what came in: it says more and counts as full. Else prove '..UptoSaid'. A law counts once. -/
mutual
def uptoBulk {H : Type} : DataW H → Nat
  | .lit (.string bytes) => bytes.length + 1
  | .lit _ => 1
  | .nil => 1
  | .ptr d => uptoBulk d + 1
  | .slice elems spare => uptoBulkAll elems + uptoBulkAll spare + 1
  | .agg parts => uptoBulkAll parts + 1
  | .iface _ d => uptoBulk d + 1
  | .map entries => uptoBulkEntries entries + 1
  | .held _ => 1
def uptoBulkAll {H : Type} : List (DataW H) → Nat
  | [] => 0
  | d :: r => uptoBulk d + uptoBulkAll r
def uptoBulkEntries {H : Type} : List (Lit × DataW H) → Nat
  | [] => 0
  | x :: r => uptoBulkEntry x + uptoBulkEntries r
def uptoBulkEntry {H : Type} : Lit × DataW H → Nat
  | (.string bytes, d) => bytes.length + uptoBulk d + 1
  | (_, d) => uptoBulk d + 1
 end
def uptoSmall : (H : Type) → List (DataW H) → Bool := fun _ ds => decide (uptoBulkAll ds ≤ 1048576)
def OpenSpec.upto (s : _root_.Go.ChangeSpec) : _root_.Go.OpenSpec := { _root_.Go.OpenSpec.ofChange s with cond := some uptoSmall }

/-- 'truchmanlaw16.ServeNews', WHERE WHAT IT READS IS OF BULK AT MOST 1048576: true; the input reads as it did. -/
def serveNewsUptoRow : OpenClaim := { program := "ytlkgdidmhmaneaagreatdoor", sum := "c02a366f9d47fb316457eee649b51dff51a451ccd9e2892f94989c4fe0c357d4", func := "truchman/truchmanlaw16.ServeNews", spec := "serveNews", inPlace := ["(*internal/sync.Mutex).Lock", "internal/race.Disable", "sync/atomic.CompareAndSwapInt32", "internal/race.Enable", "internal/race.Acquire", "(*internal/sync.Mutex).lockSlow", "internal/sync.runtime_canSpin", "internal/sync.runtime_doSpin", "internal/sync.throw", "internal/sync.runtime_nanotime", "internal/sync.runtime_SemacquireMutex", "sync/atomic.AddInt32", "(*internal/sync.Mutex).Unlock", "internal/race.ReleaseMerge", "(*internal/sync.Mutex).unlockSlow", "internal/sync.fatal", "internal/sync.runtime_Semrelease", "internal/bytealg.abigen_runtime_cmpstring", "slices.overlaps[truchman/api.Entry]"], unfollowed := true, recurses := true, named := ["truchman/codes.table"], apart := false, laid := [("truchman/codes.table", laid_truchman_codes_table)], narrowed := true }
def ServeNewsUptoSaid : Prop := serveNewsUptoRow.holds Tryz.pinned (OpenSpec.upto serveNewsSpec)

/-- 'truchmanlaw16.ServePlays', WHERE WHAT IT READS IS OF BULK AT MOST 1048576: true; the input reads as it did. -/
def servePlaysUptoRow : OpenClaim := { program := "ytlkgdidmhmaneaagreatdoor", sum := "c02a366f9d47fb316457eee649b51dff51a451ccd9e2892f94989c4fe0c357d4", func := "truchman/truchmanlaw16.ServePlays", spec := "servePlays", inPlace := ["(*internal/sync.Mutex).Lock", "internal/race.Disable", "sync/atomic.CompareAndSwapInt32", "internal/race.Enable", "internal/race.Acquire", "(*internal/sync.Mutex).lockSlow", "internal/sync.runtime_canSpin", "internal/sync.runtime_doSpin", "internal/sync.throw", "internal/sync.runtime_nanotime", "internal/sync.runtime_SemacquireMutex", "sync/atomic.AddInt32", "(*internal/sync.Mutex).Unlock", "internal/race.ReleaseMerge", "(*internal/sync.Mutex).unlockSlow", "internal/sync.fatal", "internal/sync.runtime_Semrelease", "internal/bytealg.abigen_runtime_cmpstring", "slices.overlaps[truchman/api.Entry]"], unfollowed := true, recurses := true, named := ["truchman/codes.table"], apart := false, laid := [("truchman/codes.table", laid_truchman_codes_table)], narrowed := true }
def ServePlaysUptoSaid : Prop := servePlaysUptoRow.holds Tryz.pinned (OpenSpec.upto servePlaysSpec)

/-- 'truchmanlaw16.ServeRaw', WHERE WHAT IT READS IS OF BULK AT MOST 1048576: true; the input reads as it did. -/
def serveRawUptoRow : OpenClaim := { program := "ytlkgdidmhmaneaagreatdoor", sum := "c02a366f9d47fb316457eee649b51dff51a451ccd9e2892f94989c4fe0c357d4", func := "truchman/truchmanlaw16.ServeRaw", spec := "serveRaw", inPlace := ["(*internal/sync.Mutex).Lock", "internal/race.Disable", "sync/atomic.CompareAndSwapInt32", "internal/race.Enable", "internal/race.Acquire", "(*internal/sync.Mutex).lockSlow", "internal/sync.runtime_canSpin", "internal/sync.runtime_doSpin", "internal/sync.throw", "internal/sync.runtime_nanotime", "internal/sync.runtime_SemacquireMutex", "sync/atomic.AddInt32", "(*internal/sync.Mutex).Unlock", "internal/race.ReleaseMerge", "(*internal/sync.Mutex).unlockSlow", "internal/sync.fatal", "internal/sync.runtime_Semrelease", "internal/bytealg.abigen_runtime_cmpstring", "slices.overlaps[truchman/api.Entry]"], unfollowed := true, recurses := true, named := ["truchman/codes.table"], apart := false, laid := [("truchman/codes.table", laid_truchman_codes_table)], narrowed := true }
def ServeRawUptoSaid : Prop := serveRawUptoRow.holds Tryz.pinned (OpenSpec.upto serveRawSpec)

/-- 'truchmanlaw16.ServeFiles', WHERE WHAT IT READS IS OF BULK AT MOST 1048576: true; the input reads as it did. -/
def serveFilesUptoRow : OpenClaim := { program := "ytlkgdidmhmaneaagreatdoor", sum := "c02a366f9d47fb316457eee649b51dff51a451ccd9e2892f94989c4fe0c357d4", func := "truchman/truchmanlaw16.ServeFiles", spec := "serveFiles", inPlace := ["(*internal/sync.Mutex).Lock", "internal/race.Disable", "sync/atomic.CompareAndSwapInt32", "internal/race.Enable", "internal/race.Acquire", "(*internal/sync.Mutex).lockSlow", "internal/sync.runtime_canSpin", "internal/sync.runtime_doSpin", "internal/sync.throw", "internal/sync.runtime_nanotime", "internal/sync.runtime_SemacquireMutex", "sync/atomic.AddInt32", "(*internal/sync.Mutex).Unlock", "internal/race.ReleaseMerge", "(*internal/sync.Mutex).unlockSlow", "internal/sync.fatal", "internal/sync.runtime_Semrelease", "internal/bytealg.abigen_runtime_cmpstring", "slices.overlaps[truchman/api.Entry]"], unfollowed := true, recurses := true, named := ["truchman/codes.table"], apart := false, laid := [("truchman/codes.table", laid_truchman_codes_table)], narrowed := true }
def ServeFilesUptoSaid : Prop := serveFilesUptoRow.holds Tryz.pinned (OpenSpec.upto serveFilesSpec)

/-- 'truchmanlaw16.ServeSame', WHERE WHAT IT READS IS OF BULK AT MOST 1048576: true; the input reads as it did. -/
def serveSameUptoRow : OpenClaim := { program := "ytlkgdidmhmaneaagreatdoor", sum := "c02a366f9d47fb316457eee649b51dff51a451ccd9e2892f94989c4fe0c357d4", func := "truchman/truchmanlaw16.ServeSame", spec := "serveSame", inPlace := ["(*internal/sync.Mutex).Lock", "internal/race.Disable", "sync/atomic.CompareAndSwapInt32", "internal/race.Enable", "internal/race.Acquire", "(*internal/sync.Mutex).lockSlow", "internal/sync.runtime_canSpin", "internal/sync.runtime_doSpin", "internal/sync.throw", "internal/sync.runtime_nanotime", "internal/sync.runtime_SemacquireMutex", "sync/atomic.AddInt32", "(*internal/sync.Mutex).Unlock", "internal/race.ReleaseMerge", "(*internal/sync.Mutex).unlockSlow", "internal/sync.fatal", "internal/sync.runtime_Semrelease", "internal/bytealg.abigen_runtime_cmpstring", "slices.overlaps[truchman/api.Entry]"], unfollowed := true, recurses := true, named := ["truchman/codes.table"], apart := false, laid := [("truchman/codes.table", laid_truchman_codes_table)], narrowed := true }
def ServeSameUptoSaid : Prop := serveSameUptoRow.holds Tryz.pinned (OpenSpec.upto serveSameSpec)

end Rows
end Go.Proofs.YtlkgdidmhmaneaaGreatDoor

/- Rows of rows that came in: the opening, for the laws of JournalKeeps and JournalSurvives. -/
import Derived.Test.YtcppmihambcihaaDoorJrSurvW
namespace Go.Proofs.YtcppmihambcihaaDoor
open Go Go.RowKit Go.Shelf
theorem open_rows {H : Type} {enc : TypeId × Value → H} {w : World} {base : Nat} {held : Bool} {A : Option Addr} {len cap fuel : Nat} {x : DataW H × List MemPlace} (h : DataW.trod enc Tryd.prog w base (fun _ => true) held fuel 22 [.slice A len cap] = some x) : IsRows w A len cap :=
  open_esP brc_len (by omega) Tryd.underlying22 (by kernel_rfl) trod_row h
end Go.Proofs.YtcppmihambcihaaDoor

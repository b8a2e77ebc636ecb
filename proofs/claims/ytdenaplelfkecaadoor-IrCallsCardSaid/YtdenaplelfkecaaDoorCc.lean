/- A part of the tool. -/
import Derived.Test.YtdenaplelfkecaaDoorCh
import Derived.Test.YtdenaplelfkecaaDoorM
set_option linter.unusedSimpArgs false
set_option linter.unusedVariables false
namespace Mv
open Go
/-- The seat has these functions. -/
structure OkB (M : Seat) : Prop where
  k205 : chkF M 205 f205 = true
  k206 : chkF M 206 f206 = true
  k311 : chkF M 311 f311 = true
  k413 : chkF M 413 f413 = true
  k414 : chkF M 414 f414 = true
  k415 : chkF M 415 f415 = true
  k461 : chkF M 461 f461 = true
end Mv

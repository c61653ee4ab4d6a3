/-
  Names for rows.
-/
import Derived.Test.YtmclopghpnndnaaSl17
namespace Go.Sl
abbrev I3 : Ec Int := ecI 3 .i64
end Go.Sl

/-
  (what stood here stands in HuffPlain2b)
-/
import Derived.Test.YtmclopghpnndnaaHuffBase3

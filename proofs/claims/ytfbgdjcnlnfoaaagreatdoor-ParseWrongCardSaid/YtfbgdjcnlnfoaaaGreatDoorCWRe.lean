/- Parts of the proof, joined: PlainUD. -/
import Derived.Test.YtfbgdjcnlnfoaaaGreatDoorB01
import Derived.Test.YtfbgdjcnlnfoaaaGreatDoorB02
import Derived.Test.YtfbgdjcnlnfoaaaGreatDoorB03
import Derived.Test.YtfbgdjcnlnfoaaaGreatDoorB04
import Derived.Test.YtfbgdjcnlnfoaaaGreatDoorB05
import Derived.Test.YtfbgdjcnlnfoaaaGreatDoorB06
import Derived.Test.YtfbgdjcnlnfoaaaGreatDoorB07
import Derived.Test.YtfbgdjcnlnfoaaaGreatDoorB08
import Derived.Test.YtfbgdjcnlnfoaaaGreatDoorB09
import Derived.Test.YtfbgdjcnlnfoaaaGreatDoorB10
import Derived.Test.YtfbgdjcnlnfoaaaGreatDoorB11
import Derived.Test.YtfbgdjcnlnfoaaaGreatDoorB12a
import Derived.Test.YtfbgdjcnlnfoaaaGreatDoorB12b
import Derived.Test.YtfbgdjcnlnfoaaaGreatDoorB12c
import Derived.Test.YtfbgdjcnlnfoaaaGreatDoorB12d
import Derived.Test.YtfbgdjcnlnfoaaaGreatDoorB12e
import Derived.Test.YtfbgdjcnlnfoaaaGreatDoorB12f
import Derived.Test.YtfbgdjcnlnfoaaaGreatDoorB12g
import Derived.Test.YtfbgdjcnlnfoaaaGreatDoorB12h
import Derived.Test.YtfbgdjcnlnfoaaaGreatDoorB12i
import Derived.Test.YtfbgdjcnlnfoaaaGreatDoorB12j
import Derived.Test.YtfbgdjcnlnfoaaaGreatDoorB13a
import Derived.Test.YtfbgdjcnlnfoaaaGreatDoorB13b
import Derived.Test.YtfbgdjcnlnfoaaaGreatDoorB13c
import Derived.Test.YtfbgdjcnlnfoaaaGreatDoorB13d
import Derived.Test.YtfbgdjcnlnfoaaaGreatDoorB13e
import Derived.Test.YtfbgdjcnlnfoaaaGreatDoorCWRa
import Derived.Test.YtfbgdjcnlnfoaaaGreatDoorRows
namespace Go.Proofs.YtfbgdjcnlnfoaaaGreatDoor
namespace Cle

theorem wr_0_4 : atOK (words8.getD 0 []) 4 = true := by decide +kernel
theorem wr_0_8 : atOK (words8.getD 0 []) 8 = true := by decide +kernel
theorem wr_0_12 : atOK (words8.getD 0 []) 12 = true := by decide +kernel
theorem wr_0_16 : atOK (words8.getD 0 []) 16 = true := by decide +kernel
theorem wr_0_20 : atOK (words8.getD 0 []) 20 = true := by decide +kernel
theorem wr_1_3 : atOK (words8.getD 1 []) 3 = true := by decide +kernel
theorem wr_1_7 : atOK (words8.getD 1 []) 7 = true := by decide +kernel
theorem wr_1_11 : atOK (words8.getD 1 []) 11 = true := by decide +kernel
theorem wr_1_15 : atOK (words8.getD 1 []) 15 = true := by decide +kernel
theorem wr_1_19 : atOK (words8.getD 1 []) 19 = true := by decide +kernel
theorem wr_1_23 : atOK (words8.getD 1 []) 23 = true := by decide +kernel
theorem wr_2_1 : atOK (words8.getD 2 []) 1 = true := by decide +kernel
theorem wr_2_3 : atOK (words8.getD 2 []) 3 = true := by decide +kernel
theorem wr_2_7 : atOK (words8.getD 2 []) 7 = true := by decide +kernel
theorem wr_3_2 : atOK (words8.getD 3 []) 2 = true := by decide +kernel
theorem wr_3_5 : atOK (words8.getD 3 []) 5 = true := by decide +kernel
theorem wr_3_9 : atOK (words8.getD 3 []) 9 = true := by decide +kernel
theorem wr_3_13 : atOK (words8.getD 3 []) 13 = true := by decide +kernel
theorem wr_3_17 : atOK (words8.getD 3 []) 17 = true := by decide +kernel
theorem wr_4_1 : atOK (words8.getD 4 []) 1 = true := by decide +kernel
theorem wr_4_4 : atOK (words8.getD 4 []) 4 = true := by decide +kernel
theorem wr_4_8 : atOK (words8.getD 4 []) 8 = true := by decide +kernel
theorem wr_4_12 : atOK (words8.getD 4 []) 12 = true := by decide +kernel
theorem wr_4_16 : atOK (words8.getD 4 []) 16 = true := by decide +kernel
theorem wr_4_20 : atOK (words8.getD 4 []) 20 = true := by decide +kernel
theorem wr_5_4 : atOK (words8.getD 5 []) 4 = true := by decide +kernel
theorem wr_5_8 : atOK (words8.getD 5 []) 8 = true := by decide +kernel
theorem wr_5_12 : atOK (words8.getD 5 []) 12 = true := by decide +kernel
theorem wr_6_3 : atOK (words8.getD 6 []) 3 = true := by decide +kernel
theorem wr_6_7 : atOK (words8.getD 6 []) 7 = true := by decide +kernel
theorem wr_7_3 : atOK (words8.getD 7 []) 3 = true := by decide +kernel
theorem wr_7_7 : atOK (words8.getD 7 []) 7 = true := by decide +kernel
theorem wr_7_11 : atOK (words8.getD 7 []) 11 = true := by decide +kernel
end Cle
end Go.Proofs.YtfbgdjcnlnfoaaaGreatDoor


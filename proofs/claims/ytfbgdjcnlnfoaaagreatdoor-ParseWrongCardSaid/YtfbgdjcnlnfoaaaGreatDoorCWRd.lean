/- Parts of the proof, joined: PlainUC. -/
import Derived.Test.YtfbgdjcnlnfoaaaGreatDoorB01
import Derived.Test.YtfbgdjcnlnfoaaaGreatDoorB02
import Derived.Test.YtfbgdjcnlnfoaaaGreatDoorB03
import Derived.Test.YtfbgdjcnlnfoaaaGreatDoorB04
import Derived.Test.YtfbgdjcnlnfoaaaGreatDoorB05
import Derived.Test.YtfbgdjcnlnfoaaaGreatDoorB06
import Derived.Test.YtfbgdjcnlnfoaaaGreatDoorB07
import Derived.Test.YtfbgdjcnlnfoaaaGreatDoorB08
import Derived.Test.YtfbgdjcnlnfoaaaGreatDoorB09
import Derived.Test.YtfbgdjcnlnfoaaaGreatDoorB10
import Derived.Test.YtfbgdjcnlnfoaaaGreatDoorB11
import Derived.Test.YtfbgdjcnlnfoaaaGreatDoorB12a
import Derived.Test.YtfbgdjcnlnfoaaaGreatDoorB12b
import Derived.Test.YtfbgdjcnlnfoaaaGreatDoorB12c
import Derived.Test.YtfbgdjcnlnfoaaaGreatDoorB12d
import Derived.Test.YtfbgdjcnlnfoaaaGreatDoorB12e
import Derived.Test.YtfbgdjcnlnfoaaaGreatDoorB12f
import Derived.Test.YtfbgdjcnlnfoaaaGreatDoorB12g
import Derived.Test.YtfbgdjcnlnfoaaaGreatDoorB12h
import Derived.Test.YtfbgdjcnlnfoaaaGreatDoorB12i
import Derived.Test.YtfbgdjcnlnfoaaaGreatDoorB12j
import Derived.Test.YtfbgdjcnlnfoaaaGreatDoorB13a
import Derived.Test.YtfbgdjcnlnfoaaaGreatDoorB13b
import Derived.Test.YtfbgdjcnlnfoaaaGreatDoorB13c
import Derived.Test.YtfbgdjcnlnfoaaaGreatDoorB13d
import Derived.Test.YtfbgdjcnlnfoaaaGreatDoorB13e
import Derived.Test.YtfbgdjcnlnfoaaaGreatDoorCWRa
import Derived.Test.YtfbgdjcnlnfoaaaGreatDoorRows
namespace Go.Proofs.YtfbgdjcnlnfoaaaGreatDoor
namespace Cle

theorem wr_0_3 : atOK (words8.getD 0 []) 3 = true := by decide +kernel
theorem wr_0_7 : atOK (words8.getD 0 []) 7 = true := by decide +kernel
theorem wr_0_11 : atOK (words8.getD 0 []) 11 = true := by decide +kernel
theorem wr_0_15 : atOK (words8.getD 0 []) 15 = true := by decide +kernel
theorem wr_0_19 : atOK (words8.getD 0 []) 19 = true := by decide +kernel
theorem wr_1_2 : atOK (words8.getD 1 []) 2 = true := by decide +kernel
theorem wr_1_6 : atOK (words8.getD 1 []) 6 = true := by decide +kernel
theorem wr_1_10 : atOK (words8.getD 1 []) 10 = true := by decide +kernel
theorem wr_1_14 : atOK (words8.getD 1 []) 14 = true := by decide +kernel
theorem wr_1_18 : atOK (words8.getD 1 []) 18 = true := by decide +kernel
theorem wr_1_22 : atOK (words8.getD 1 []) 22 = true := by decide +kernel
theorem wr_2_0 : atOK (words8.getD 2 []) 0 = true := by decide +kernel
theorem wr_2_2 : atOK (words8.getD 2 []) 2 = true := by decide +kernel
theorem wr_2_6 : atOK (words8.getD 2 []) 6 = true := by decide +kernel
theorem wr_3_1 : atOK (words8.getD 3 []) 1 = true := by decide +kernel
theorem wr_3_4 : atOK (words8.getD 3 []) 4 = true := by decide +kernel
theorem wr_3_8 : atOK (words8.getD 3 []) 8 = true := by decide +kernel
theorem wr_3_12 : atOK (words8.getD 3 []) 12 = true := by decide +kernel
theorem wr_3_16 : atOK (words8.getD 3 []) 16 = true := by decide +kernel
theorem wr_4_0 : atOK (words8.getD 4 []) 0 = true := by decide +kernel
theorem wr_4_3 : atOK (words8.getD 4 []) 3 = true := by decide +kernel
theorem wr_4_7 : atOK (words8.getD 4 []) 7 = true := by decide +kernel
theorem wr_4_11 : atOK (words8.getD 4 []) 11 = true := by decide +kernel
theorem wr_4_15 : atOK (words8.getD 4 []) 15 = true := by decide +kernel
theorem wr_4_19 : atOK (words8.getD 4 []) 19 = true := by decide +kernel
theorem wr_5_3 : atOK (words8.getD 5 []) 3 = true := by decide +kernel
theorem wr_5_7 : atOK (words8.getD 5 []) 7 = true := by decide +kernel
theorem wr_5_11 : atOK (words8.getD 5 []) 11 = true := by decide +kernel
theorem wr_6_2 : atOK (words8.getD 6 []) 2 = true := by decide +kernel
theorem wr_6_6 : atOK (words8.getD 6 []) 6 = true := by decide +kernel
theorem wr_7_2 : atOK (words8.getD 7 []) 2 = true := by decide +kernel
theorem wr_7_6 : atOK (words8.getD 7 []) 6 = true := by decide +kernel
theorem wr_7_10 : atOK (words8.getD 7 []) 10 = true := by decide +kernel
end Cle
end Go.Proofs.YtfbgdjcnlnfoaaaGreatDoor


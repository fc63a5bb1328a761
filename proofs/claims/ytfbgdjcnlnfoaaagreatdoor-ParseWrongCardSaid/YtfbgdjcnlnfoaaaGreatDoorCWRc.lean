/- Parts of the proof, joined: PlainUB. -/
import Derived.Test.YtfbgdjcnlnfoaaaGreatDoorB01
import Derived.Test.YtfbgdjcnlnfoaaaGreatDoorB02
import Derived.Test.YtfbgdjcnlnfoaaaGreatDoorB03
import Derived.Test.YtfbgdjcnlnfoaaaGreatDoorB04
import Derived.Test.YtfbgdjcnlnfoaaaGreatDoorB05
import Derived.Test.YtfbgdjcnlnfoaaaGreatDoorB06
import Derived.Test.YtfbgdjcnlnfoaaaGreatDoorB07
import Derived.Test.YtfbgdjcnlnfoaaaGreatDoorB08
import Derived.Test.YtfbgdjcnlnfoaaaGreatDoorB09
import Derived.Test.YtfbgdjcnlnfoaaaGreatDoorB10
import Derived.Test.YtfbgdjcnlnfoaaaGreatDoorB11
import Derived.Test.YtfbgdjcnlnfoaaaGreatDoorB12a
import Derived.Test.YtfbgdjcnlnfoaaaGreatDoorB12b
import Derived.Test.YtfbgdjcnlnfoaaaGreatDoorB12c
import Derived.Test.YtfbgdjcnlnfoaaaGreatDoorB12d
import Derived.Test.YtfbgdjcnlnfoaaaGreatDoorB12e
import Derived.Test.YtfbgdjcnlnfoaaaGreatDoorB12f
import Derived.Test.YtfbgdjcnlnfoaaaGreatDoorB12g
import Derived.Test.YtfbgdjcnlnfoaaaGreatDoorB12h
import Derived.Test.YtfbgdjcnlnfoaaaGreatDoorB12i
import Derived.Test.YtfbgdjcnlnfoaaaGreatDoorB12j
import Derived.Test.YtfbgdjcnlnfoaaaGreatDoorB13a
import Derived.Test.YtfbgdjcnlnfoaaaGreatDoorB13b
import Derived.Test.YtfbgdjcnlnfoaaaGreatDoorB13c
import Derived.Test.YtfbgdjcnlnfoaaaGreatDoorB13d
import Derived.Test.YtfbgdjcnlnfoaaaGreatDoorB13e
import Derived.Test.YtfbgdjcnlnfoaaaGreatDoorCWRa
import Derived.Test.YtfbgdjcnlnfoaaaGreatDoorRows
namespace Go.Proofs.YtfbgdjcnlnfoaaaGreatDoor
namespace Cle

theorem wr_0_0 : atOK (words8.getD 0 []) 0 = true := by decide +kernel
theorem wr_0_2 : atOK (words8.getD 0 []) 2 = true := by decide +kernel
theorem wr_0_6 : atOK (words8.getD 0 []) 6 = true := by decide +kernel
theorem wr_0_10 : atOK (words8.getD 0 []) 10 = true := by decide +kernel
theorem wr_0_14 : atOK (words8.getD 0 []) 14 = true := by decide +kernel
theorem wr_0_18 : atOK (words8.getD 0 []) 18 = true := by decide +kernel
theorem wr_1_1 : atOK (words8.getD 1 []) 1 = true := by decide +kernel
theorem wr_1_5 : atOK (words8.getD 1 []) 5 = true := by decide +kernel
theorem wr_1_9 : atOK (words8.getD 1 []) 9 = true := by decide +kernel
theorem wr_1_13 : atOK (words8.getD 1 []) 13 = true := by decide +kernel
theorem wr_1_17 : atOK (words8.getD 1 []) 17 = true := by decide +kernel
theorem wr_1_21 : atOK (words8.getD 1 []) 21 = true := by decide +kernel
theorem wr_2_5 : atOK (words8.getD 2 []) 5 = true := by decide +kernel
theorem wr_3_0 : atOK (words8.getD 3 []) 0 = true := by decide +kernel
theorem wr_3_3 : atOK (words8.getD 3 []) 3 = true := by decide +kernel
theorem wr_3_7 : atOK (words8.getD 3 []) 7 = true := by decide +kernel
theorem wr_3_11 : atOK (words8.getD 3 []) 11 = true := by decide +kernel
theorem wr_3_15 : atOK (words8.getD 3 []) 15 = true := by decide +kernel
theorem wr_3_19 : atOK (words8.getD 3 []) 19 = true := by decide +kernel
theorem wr_4_5 : atOK (words8.getD 4 []) 5 = true := by decide +kernel
theorem wr_4_9 : atOK (words8.getD 4 []) 9 = true := by decide +kernel
theorem wr_4_13 : atOK (words8.getD 4 []) 13 = true := by decide +kernel
theorem wr_4_17 : atOK (words8.getD 4 []) 17 = true := by decide +kernel
theorem wr_5_2 : atOK (words8.getD 5 []) 2 = true := by decide +kernel
theorem wr_5_6 : atOK (words8.getD 5 []) 6 = true := by decide +kernel
theorem wr_5_10 : atOK (words8.getD 5 []) 10 = true := by decide +kernel
theorem wr_6_1 : atOK (words8.getD 6 []) 1 = true := by decide +kernel
theorem wr_6_5 : atOK (words8.getD 6 []) 5 = true := by decide +kernel
theorem wr_6_9 : atOK (words8.getD 6 []) 9 = true := by decide +kernel
theorem wr_7_1 : atOK (words8.getD 7 []) 1 = true := by decide +kernel
theorem wr_7_5 : atOK (words8.getD 7 []) 5 = true := by decide +kernel
theorem wr_7_9 : atOK (words8.getD 7 []) 9 = true := by decide +kernel
end Cle
end Go.Proofs.YtfbgdjcnlnfoaaaGreatDoor


/- Parts of the proof, joined: PlainUA. -/
import Derived.Test.YtfbgdjcnlnfoaaaGreatDoorB01
import Derived.Test.YtfbgdjcnlnfoaaaGreatDoorB02
import Derived.Test.YtfbgdjcnlnfoaaaGreatDoorB03
import Derived.Test.YtfbgdjcnlnfoaaaGreatDoorB04
import Derived.Test.YtfbgdjcnlnfoaaaGreatDoorB05
import Derived.Test.YtfbgdjcnlnfoaaaGreatDoorB06
import Derived.Test.YtfbgdjcnlnfoaaaGreatDoorB07
import Derived.Test.YtfbgdjcnlnfoaaaGreatDoorB08
import Derived.Test.YtfbgdjcnlnfoaaaGreatDoorB09
import Derived.Test.YtfbgdjcnlnfoaaaGreatDoorB10
import Derived.Test.YtfbgdjcnlnfoaaaGreatDoorB11
import Derived.Test.YtfbgdjcnlnfoaaaGreatDoorB12a
import Derived.Test.YtfbgdjcnlnfoaaaGreatDoorB12b
import Derived.Test.YtfbgdjcnlnfoaaaGreatDoorB12c
import Derived.Test.YtfbgdjcnlnfoaaaGreatDoorB12d
import Derived.Test.YtfbgdjcnlnfoaaaGreatDoorB12e
import Derived.Test.YtfbgdjcnlnfoaaaGreatDoorB12f
import Derived.Test.YtfbgdjcnlnfoaaaGreatDoorB12g
import Derived.Test.YtfbgdjcnlnfoaaaGreatDoorB12h
import Derived.Test.YtfbgdjcnlnfoaaaGreatDoorB12i
import Derived.Test.YtfbgdjcnlnfoaaaGreatDoorB12j
import Derived.Test.YtfbgdjcnlnfoaaaGreatDoorB13a
import Derived.Test.YtfbgdjcnlnfoaaaGreatDoorB13b
import Derived.Test.YtfbgdjcnlnfoaaaGreatDoorB13c
import Derived.Test.YtfbgdjcnlnfoaaaGreatDoorB13d
import Derived.Test.YtfbgdjcnlnfoaaaGreatDoorB13e
import Derived.Test.YtfbgdjcnlnfoaaaGreatDoorCWRa
import Derived.Test.YtfbgdjcnlnfoaaaGreatDoorRows
namespace Go.Proofs.YtfbgdjcnlnfoaaaGreatDoor
namespace Cle

theorem wr_0_1 : atOK (words8.getD 0 []) 1 = true := by decide +kernel
theorem wr_0_5 : atOK (words8.getD 0 []) 5 = true := by decide +kernel
theorem wr_0_9 : atOK (words8.getD 0 []) 9 = true := by decide +kernel
theorem wr_0_13 : atOK (words8.getD 0 []) 13 = true := by decide +kernel
theorem wr_0_17 : atOK (words8.getD 0 []) 17 = true := by decide +kernel
theorem wr_1_0 : atOK (words8.getD 1 []) 0 = true := by decide +kernel
theorem wr_1_4 : atOK (words8.getD 1 []) 4 = true := by decide +kernel
theorem wr_1_8 : atOK (words8.getD 1 []) 8 = true := by decide +kernel
theorem wr_1_12 : atOK (words8.getD 1 []) 12 = true := by decide +kernel
theorem wr_1_16 : atOK (words8.getD 1 []) 16 = true := by decide +kernel
theorem wr_1_20 : atOK (words8.getD 1 []) 20 = true := by decide +kernel
theorem wr_1_24 : atOK (words8.getD 1 []) 24 = true := by decide +kernel
theorem wr_2_4 : atOK (words8.getD 2 []) 4 = true := by decide +kernel
theorem wr_3_6 : atOK (words8.getD 3 []) 6 = true := by decide +kernel
theorem wr_3_10 : atOK (words8.getD 3 []) 10 = true := by decide +kernel
theorem wr_3_14 : atOK (words8.getD 3 []) 14 = true := by decide +kernel
theorem wr_3_18 : atOK (words8.getD 3 []) 18 = true := by decide +kernel
theorem wr_4_2 : atOK (words8.getD 4 []) 2 = true := by decide +kernel
theorem wr_4_6 : atOK (words8.getD 4 []) 6 = true := by decide +kernel
theorem wr_4_10 : atOK (words8.getD 4 []) 10 = true := by decide +kernel
theorem wr_4_14 : atOK (words8.getD 4 []) 14 = true := by decide +kernel
theorem wr_4_18 : atOK (words8.getD 4 []) 18 = true := by decide +kernel
theorem wr_5_0 : atOK (words8.getD 5 []) 0 = true := by decide +kernel
theorem wr_5_1 : atOK (words8.getD 5 []) 1 = true := by decide +kernel
theorem wr_5_5 : atOK (words8.getD 5 []) 5 = true := by decide +kernel
theorem wr_5_9 : atOK (words8.getD 5 []) 9 = true := by decide +kernel
theorem wr_6_0 : atOK (words8.getD 6 []) 0 = true := by decide +kernel
theorem wr_6_4 : atOK (words8.getD 6 []) 4 = true := by decide +kernel
theorem wr_6_8 : atOK (words8.getD 6 []) 8 = true := by decide +kernel
theorem wr_7_0 : atOK (words8.getD 7 []) 0 = true := by decide +kernel
theorem wr_7_4 : atOK (words8.getD 7 []) 4 = true := by decide +kernel
theorem wr_7_8 : atOK (words8.getD 7 []) 8 = true := by decide +kernel
theorem wra_0 : allOK (words8.getD 0 []) = true := by decide +kernel
theorem wra_1 : allOK (words8.getD 1 []) = true := by decide +kernel
theorem wra_2 : allOK (words8.getD 2 []) = true := by decide +kernel
theorem wra_3 : allOK (words8.getD 3 []) = true := by decide +kernel
theorem wra_4 : allOK (words8.getD 4 []) = true := by decide +kernel
theorem wra_5 : allOK (words8.getD 5 []) = true := by decide +kernel
theorem wra_6 : allOK (words8.getD 6 []) = true := by decide +kernel
theorem wra_7 : allOK (words8.getD 7 []) = true := by decide +kernel
end Cle
end Go.Proofs.YtfbgdjcnlnfoaaaGreatDoor


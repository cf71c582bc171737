/- What some calls of this program come to, and the start. -/
import Derived.Test.YtkapnepkkeaiaaaGreatDoorProg
import Derived.KernelRfl
import Derived.Test.YtkapnepkkeaiaaaGreatDoorX5
namespace Go.Proofs.YtkapnepkkeaiaaaGreatDoor
open Sx
def asciiObj : Nat × Sx.Obj := (3, .cells 385 256 [.int .u8 (.ofNat 0)] (.node (.node (.node .leaf none (.node .leaf (some (.int .u8 (.ofNat 1))) .leaf)) none (.node (.node .leaf (some (.int .u8 (.ofNat 1))) .leaf) none (.node .leaf (some (.int .u8 (.ofNat 1))) .leaf))) none (.node (.node (.node (.node (.node .leaf (some (.int .u8 (.ofNat 1))) .leaf) none .leaf) none .leaf) none (.node .leaf (some (.int .u8 (.ofNat 1))) .leaf)) none (.node (.node .leaf (some (.int .u8 (.ofNat 1))) .leaf) none .leaf))) false true none)
def ent0 : Ent where
  k := 13
  args := []
  need := []
  n0 := 1000
  v := (.sl 1074 0 37 37 true)
  news := [(1074, (.cells 69 74 [(.int .i64 (.ofNat 1)), (.int .i64 (.ofNat 1)), (.int .i64 (.ofNat 2)), (.int .i64 (.ofNat 2)), (.int .i64 (.ofNat 3)), (.int .i64 (.ofNat 1)), (.int .i64 (.ofNat 4)), (.int .i64 (.ofNat 1)), (.int .i64 (.ofNat 5)), (.int .i64 (.ofNat 3)), (.int .i64 (.ofNat 6)), (.int .i64 (.ofNat 1)), (.int .i64 (.ofNat 7)), (.int .i64 (.ofNat 1)), (.int .i64 (.ofNat 8)), (.int .i64 (.ofNat 1)), (.int .i64 (.ofNat 9)), (.int .i64 (.ofNat 1)), (.int .i64 (.ofNat 10)), (.int .i64 (.ofNat 1)), (.int .i64 (.ofNat 11)), (.int .i64 (.ofNat 1)), (.int .i64 (.ofNat 12)), (.int .i64 (.ofNat 1)), (.int .i64 (.ofNat 13)), (.int .i64 (.ofNat 1)), (.int .i64 (.ofNat 14)), (.int .i64 (.ofNat 1)), (.int .i64 (.ofNat 15)), (.int .i64 (.ofNat 12)), (.int .i64 (.ofNat 16)), (.int .i64 (.ofNat 1)), (.int .i64 (.ofNat 17)), (.int .i64 (.ofNat 1)), (.int .i64 (.ofNat 18)), (.int .i64 (.ofNat 1)), (.int .i64 (.ofNat 19)), (.int .i64 (.ofNat 1)), (.int .i64 (.ofNat 20)), (.int .i64 (.ofNat 1)), (.int .i64 (.ofNat 21)), (.int .i64 (.ofNat 1)), (.int .i64 (.ofNat 22)), (.int .i64 (.ofNat 3)), (.int .i64 (.ofNat 23)), (.int .i64 (.ofNat 2)), (.int .i64 (.ofNat 24)), (.int .i64 (.ofNat 2)), (.int .i64 (.ofNat 25)), (.int .i64 (.ofNat 2)), (.int .i64 (.ofNat 26)), (.int .i64 (.ofNat 4)), (.int .i64 (.ofNat 27)), (.int .i64 (.ofNat 1)), (.int .i64 (.ofNat 28)), (.int .i64 (.ofNat 1)), (.int .i64 (.ofNat 29)), (.int .i64 (.ofNat 1)), (.int .i64 (.ofNat 30)), (.int .i64 (.ofNat 3)), (.int .i64 (.ofNat 31)), (.int .i64 (.ofNat 6)), (.int .i64 (.ofNat 32)), (.int .i64 (.ofNat 4)), (.int .i64 (.ofNat 33)), (.int .i64 (.ofNat 1)), (.int .i64 (.ofNat 34)), (.int .i64 (.ofNat 1)), (.int .i64 (.ofNat 35)), (.int .i64 (.ofNat 1)), (.int .i64 (.ofNat 36)), (.int .i64 (.ofNat 1)), (.int .i64 (.ofNat 37)), (.int .i64 (.ofNat 2))] .leaf true false (some 1072)))]
  hi := 1075

def ent1 : Ent where
  k := 135
  args := [(.str [106, 117, 109, 112, 32, 98, 114, 97, 110, 99, 104, 32, 115, 119, 105, 116, 99, 104, 32, 114, 101, 116, 32, 116, 114, 97, 112])]
  need := [asciiObj]
  n0 := 1000
  v := (.sl 1000 0 5 5 false)
  news := [(1000, (.cells 9 5 [(.str [])] (.node (.node (.node .leaf (some (.str [114, 101, 116])) .leaf) (some (.str [98, 114, 97, 110, 99, 104])) .leaf) (some (.str [106, 117, 109, 112])) (.node (.node .leaf (some (.str [116, 114, 97, 112])) .leaf) (some (.str [115, 119, 105, 116, 99, 104])) .leaf)) false false none))]
  hi := 1001

def ent2 : Ent where
  k := 135
  args := [(.str [99, 111, 110, 115, 116, 32, 97, 100, 100, 32, 115, 117, 98, 32, 109, 117, 108, 32, 97, 110, 100, 32, 111, 114, 32, 120, 111, 114, 32, 115, 104, 108, 32, 115, 104, 114, 32, 115, 97, 114, 32, 101, 113, 32, 108, 116, 32, 108, 116, 117, 32, 100, 105, 118, 32, 108, 111, 97, 100, 32, 115, 116, 111, 114, 101, 32, 99, 97, 108, 108, 32, 109, 117, 108, 119])]
  need := [asciiObj]
  n0 := 1000
  v := (.sl 1000 0 18 18 false)
  news := [(1000, (.cells 9 18 [(.str [])] (.node (.node (.node (.node (.node .leaf (some (.str [115, 116, 111, 114, 101])) .leaf) (some (.str [115, 104, 108])) .leaf) (some (.str [109, 117, 108])) (.node .leaf (some (.str [108, 116])) .leaf)) (some (.str [97, 100, 100])) (.node (.node (.node .leaf (some (.str [109, 117, 108, 119])) .leaf) (some (.str [115, 97, 114])) .leaf) (some (.str [111, 114])) (.node .leaf (some (.str [100, 105, 118])) .leaf))) (some (.str [99, 111, 110, 115, 116])) (.node (.node (.node (.node .leaf (some (.str [99, 97, 108, 108])) .leaf) (some (.str [115, 104, 114])) .leaf) (some (.str [97, 110, 100])) (.node .leaf (some (.str [108, 116, 117])) .leaf)) (some (.str [115, 117, 98])) (.node (.node .leaf (some (.str [101, 113])) .leaf) (some (.str [120, 111, 114])) (.node .leaf (some (.str [108, 111, 97, 100])) .leaf)))) false false none))]
  hi := 1001

def ent3 : Ent where
  k := 41
  args := [(.str [102, 117, 110, 99, 32, 49, 10, 98, 108, 111, 99, 107, 32, 48, 10, 97, 100, 100, 32, 49, 32, 48, 32, 48, 10, 114, 101, 116, 32, 49, 10])]
  need := [asciiObj]
  n0 := 1000
  v := (.tup [(.agg [(.int .i64 (.ofNat 1)), (.sl 1036 0 1 1 true)]), (.int .i64 (.ofNat 0)), (.int .i64 (.ofNat 0))])
  news := [(1036, (.cells 140 6 [.nils, .nils, (.int .i64 (.ofNat 0)), .nils, .nils, (.int .i32 (.ofNat 0))] (.node (.node (.node .leaf (some (.sl 1085 0 1 1 true)) .leaf) (some (.sl 1067 0 1 1 true)) (.node .leaf (some (.int .i32 (.ofNat 0))) .leaf)) none (.node (.node .leaf (some .nils) .leaf) (some (.int .i64 (.ofNat 4))) .leaf)) true false none)), (1064, (.cells 3 3 [(.int .i64 (.ofNat 1)), (.int .i64 (.ofNat 0)), (.int .i64 (.ofNat 0))] .leaf true false (some 1061))), (1067, (.cells 157 5 [(.int .i64 (.ofNat 2)), (.int .i64 (.ofNat 1)), (.int .i64 (.ofNat 0)), (.sl 1064 1 2 2 false), (.int .i32 (.ofNat 0))] .leaf true false none)), (1085, (.cells 3 1 [(.int .i64 (.ofNat 1))] .leaf true false none))]
  hi := 1090

def ent4 : Ent where
  k := 46
  args := [(.agg [(.int .i64 (.ofNat 1)), (.sl 1000 0 1 1 true)])]
  need := [(1000, (.cells 140 6 [.nils, .nils, (.int .i64 (.ofNat 0)), .nils, .nils, (.int .i32 (.ofNat 0))] (.node (.node (.node .leaf (some (.sl 1001 0 1 1 true)) .leaf) (some (.sl 1002 0 1 1 true)) (.node .leaf (some (.int .i32 (.ofNat 0))) .leaf)) none (.node (.node .leaf (some .nils) .leaf) (some (.int .i64 (.ofNat 4))) .leaf)) true false none)), (1001, (.cells 3 1 [(.int .i64 (.ofNat 1))] .leaf true false none)), (1002, (.cells 157 5 [(.int .i64 (.ofNat 2)), (.int .i64 (.ofNat 1)), (.int .i64 (.ofNat 0)), (.sl 1003 1 2 2 false), (.int .i32 (.ofNat 0))] .leaf true false none)), (1003, (.cells 3 3 [(.int .i64 (.ofNat 1)), (.int .i64 (.ofNat 0)), (.int .i64 (.ofNat 0))] .leaf true false none))]
  n0 := 1004
  v := (.tup [(.int .i64 (.ofNat 0)), (.int .i64 (.ofNat 0)), (.int .i64 (.ofNat 0))])
  news := []
  hi := 1056

def ent5 : Ent where
  k := 135
  args := [(.str [108, 105, 32, 108, 105, 119, 32, 97, 100, 100, 32, 115, 117, 98, 32, 109, 117, 108, 32, 97, 110, 100, 32, 111, 114, 32, 120, 111, 114, 32, 115, 104, 108, 32, 115, 104, 114, 32, 115, 97, 114, 32, 101, 113, 32, 108, 116, 32, 108, 116, 117, 32, 100, 105, 118, 32, 97, 100, 100, 105, 32, 115, 117, 98, 105, 32, 97, 110, 100, 105, 32, 115, 104, 108, 105, 32, 115, 104, 114, 105, 32, 115, 97, 114, 105, 32, 109, 97, 100, 100, 32, 108, 100, 32, 108, 100, 97, 32, 108, 100, 120, 32, 108, 100, 108, 32, 115, 116, 32, 115, 116, 97, 32, 115, 116, 120, 32, 115, 116, 108, 32, 99, 97, 108, 108, 32, 109, 117, 108, 119, 32, 98, 110, 122, 32, 98, 101, 113, 32, 98, 108, 116, 32, 98, 108, 116, 117, 32, 106, 116])]
  need := [asciiObj]
  n0 := 1000
  v := (.sl 1000 0 37 37 false)
  news := [(1000, (.cells 9 37 [(.str [])] (.node (.node (.node (.node (.node (.node .leaf (some (.str [109, 117, 108, 119])) .leaf) (some (.str [97, 100, 100, 105])) .leaf) (some (.str [120, 111, 114])) (.node .leaf (some (.str [108, 100, 97])) .leaf)) (some (.str [115, 117, 98])) (.node (.node (.node .leaf (some (.str [98, 108, 116, 117])) .leaf) (some (.str [115, 104, 114, 105])) .leaf) (some (.str [101, 113])) (.node .leaf (some (.str [115, 116, 97])) .leaf))) (some (.str [108, 105, 119])) (.node (.node (.node (.node .leaf (some (.str [98, 101, 113])) .leaf) (some (.str [97, 110, 100, 105])) .leaf) (some (.str [115, 104, 114])) (.node .leaf (some (.str [108, 100, 108])) .leaf)) (some (.str [97, 110, 100])) (.node (.node .leaf (some (.str [109, 97, 100, 100])) .leaf) (some (.str [108, 116, 117])) (.node .leaf (some (.str [115, 116, 108])) .leaf)))) (some (.str [108, 105])) (.node (.node (.node (.node (.node .leaf (some (.str [98, 110, 122])) .leaf) (some (.str [115, 117, 98, 105])) .leaf) (some (.str [115, 104, 108])) (.node .leaf (some (.str [108, 100, 120])) .leaf)) (some (.str [109, 117, 108])) (.node (.node (.node .leaf (some (.str [106, 116])) .leaf) (some (.str [115, 97, 114, 105])) .leaf) (some (.str [108, 116])) (.node .leaf (some (.str [115, 116, 120])) .leaf))) (some (.str [97, 100, 100])) (.node (.node (.node (.node .leaf (some (.str [98, 108, 116])) .leaf) (some (.str [115, 104, 108, 105])) .leaf) (some (.str [115, 97, 114])) (.node .leaf (some (.str [115, 116])) .leaf)) (some (.str [111, 114])) (.node (.node .leaf (some (.str [108, 100])) .leaf) (some (.str [100, 105, 118])) (.node .leaf (some (.str [99, 97, 108, 108])) .leaf))))) false false none))]
  hi := 1001

def ent6 : Ent where
  k := 143
  args := [(.int .i64 (.ofNat 1))]
  need := [asciiObj]
  n0 := 1000
  v := (.str [108, 105])
  news := []
  hi := 1001

def ent7 : Ent where
  k := 143
  args := [(.int .i64 (.ofNat 2))]
  need := [asciiObj]
  n0 := 1000
  v := (.str [108, 105, 119])
  news := []
  hi := 1001

def ent8 : Ent where
  k := 143
  args := [(.int .i64 (.ofNat 3))]
  need := [asciiObj]
  n0 := 1000
  v := (.str [97, 100, 100])
  news := []
  hi := 1001

def ent9 : Ent where
  k := 143
  args := [(.int .i64 (.ofNat 4))]
  need := [asciiObj]
  n0 := 1000
  v := (.str [115, 117, 98])
  news := []
  hi := 1001

def ent10 : Ent where
  k := 143
  args := [(.int .i64 (.ofNat 5))]
  need := [asciiObj]
  n0 := 1000
  v := (.str [109, 117, 108])
  news := []
  hi := 1001

def ent11 : Ent where
  k := 143
  args := [(.int .i64 (.ofNat 6))]
  need := [asciiObj]
  n0 := 1000
  v := (.str [97, 110, 100])
  news := []
  hi := 1001

def ent12 : Ent where
  k := 143
  args := [(.int .i64 (.ofNat 7))]
  need := [asciiObj]
  n0 := 1000
  v := (.str [111, 114])
  news := []
  hi := 1001

def ent13 : Ent where
  k := 143
  args := [(.int .i64 (.ofNat 8))]
  need := [asciiObj]
  n0 := 1000
  v := (.str [120, 111, 114])
  news := []
  hi := 1001

def ent14 : Ent where
  k := 143
  args := [(.int .i64 (.ofNat 9))]
  need := [asciiObj]
  n0 := 1000
  v := (.str [115, 104, 108])
  news := []
  hi := 1001

def ent15 : Ent where
  k := 143
  args := [(.int .i64 (.ofNat 10))]
  need := [asciiObj]
  n0 := 1000
  v := (.str [115, 104, 114])
  news := []
  hi := 1001

def ent16 : Ent where
  k := 143
  args := [(.int .i64 (.ofNat 11))]
  need := [asciiObj]
  n0 := 1000
  v := (.str [115, 97, 114])
  news := []
  hi := 1001

def ent17 : Ent where
  k := 143
  args := [(.int .i64 (.ofNat 12))]
  need := [asciiObj]
  n0 := 1000
  v := (.str [101, 113])
  news := []
  hi := 1001

def ent18 : Ent where
  k := 143
  args := [(.int .i64 (.ofNat 13))]
  need := [asciiObj]
  n0 := 1000
  v := (.str [108, 116])
  news := []
  hi := 1001

def ent19 : Ent where
  k := 143
  args := [(.int .i64 (.ofNat 14))]
  need := [asciiObj]
  n0 := 1000
  v := (.str [108, 116, 117])
  news := []
  hi := 1001

def ent20 : Ent where
  k := 143
  args := [(.int .i64 (.ofNat 15))]
  need := [asciiObj]
  n0 := 1000
  v := (.str [100, 105, 118])
  news := []
  hi := 1001

def ent21 : Ent where
  k := 143
  args := [(.int .i64 (.ofNat 16))]
  need := [asciiObj]
  n0 := 1000
  v := (.str [97, 100, 100, 105])
  news := []
  hi := 1001

def ent22 : Ent where
  k := 143
  args := [(.int .i64 (.ofNat 17))]
  need := [asciiObj]
  n0 := 1000
  v := (.str [115, 117, 98, 105])
  news := []
  hi := 1001

def ent23 : Ent where
  k := 143
  args := [(.int .i64 (.ofNat 18))]
  need := [asciiObj]
  n0 := 1000
  v := (.str [97, 110, 100, 105])
  news := []
  hi := 1001

def ent24 : Ent where
  k := 143
  args := [(.int .i64 (.ofNat 19))]
  need := [asciiObj]
  n0 := 1000
  v := (.str [115, 104, 108, 105])
  news := []
  hi := 1001

def ent25 : Ent where
  k := 143
  args := [(.int .i64 (.ofNat 20))]
  need := [asciiObj]
  n0 := 1000
  v := (.str [115, 104, 114, 105])
  news := []
  hi := 1001

def ent26 : Ent where
  k := 143
  args := [(.int .i64 (.ofNat 21))]
  need := [asciiObj]
  n0 := 1000
  v := (.str [115, 97, 114, 105])
  news := []
  hi := 1001

def ent27 : Ent where
  k := 143
  args := [(.int .i64 (.ofNat 22))]
  need := [asciiObj]
  n0 := 1000
  v := (.str [109, 97, 100, 100])
  news := []
  hi := 1001

def ent28 : Ent where
  k := 143
  args := [(.int .i64 (.ofNat 23))]
  need := [asciiObj]
  n0 := 1000
  v := (.str [108, 100])
  news := []
  hi := 1001

def ent29 : Ent where
  k := 143
  args := [(.int .i64 (.ofNat 24))]
  need := [asciiObj]
  n0 := 1000
  v := (.str [108, 100, 97])
  news := []
  hi := 1001

def ent30 : Ent where
  k := 143
  args := [(.int .i64 (.ofNat 25))]
  need := [asciiObj]
  n0 := 1000
  v := (.str [108, 100, 120])
  news := []
  hi := 1001

def ent31 : Ent where
  k := 143
  args := [(.int .i64 (.ofNat 26))]
  need := [asciiObj]
  n0 := 1000
  v := (.str [108, 100, 108])
  news := []
  hi := 1001

def ent32 : Ent where
  k := 143
  args := [(.int .i64 (.ofNat 27))]
  need := [asciiObj]
  n0 := 1000
  v := (.str [115, 116])
  news := []
  hi := 1001

def ent33 : Ent where
  k := 143
  args := [(.int .i64 (.ofNat 28))]
  need := [asciiObj]
  n0 := 1000
  v := (.str [115, 116, 97])
  news := []
  hi := 1001

def ent34 : Ent where
  k := 143
  args := [(.int .i64 (.ofNat 29))]
  need := [asciiObj]
  n0 := 1000
  v := (.str [115, 116, 120])
  news := []
  hi := 1001

def ent35 : Ent where
  k := 143
  args := [(.int .i64 (.ofNat 30))]
  need := [asciiObj]
  n0 := 1000
  v := (.str [115, 116, 108])
  news := []
  hi := 1001

def ent36 : Ent where
  k := 143
  args := [(.int .i64 (.ofNat 31))]
  need := [asciiObj]
  n0 := 1000
  v := (.str [99, 97, 108, 108])
  news := []
  hi := 1001

def ent37 : Ent where
  k := 143
  args := [(.int .i64 (.ofNat 32))]
  need := [asciiObj]
  n0 := 1000
  v := (.str [109, 117, 108, 119])
  news := []
  hi := 1001

def ent38 : Ent where
  k := 143
  args := [(.int .i64 (.ofNat 33))]
  need := [asciiObj]
  n0 := 1000
  v := (.str [98, 110, 122])
  news := []
  hi := 1001

def ent39 : Ent where
  k := 143
  args := [(.int .i64 (.ofNat 34))]
  need := [asciiObj]
  n0 := 1000
  v := (.str [98, 101, 113])
  news := []
  hi := 1001

def ent40 : Ent where
  k := 143
  args := [(.int .i64 (.ofNat 35))]
  need := [asciiObj]
  n0 := 1000
  v := (.str [98, 108, 116])
  news := []
  hi := 1001

def ent41 : Ent where
  k := 143
  args := [(.int .i64 (.ofNat 36))]
  need := [asciiObj]
  n0 := 1000
  v := (.str [98, 108, 116, 117])
  news := []
  hi := 1001

def ent42 : Ent where
  k := 143
  args := [(.int .i64 (.ofNat 37))]
  need := [asciiObj]
  n0 := 1000
  v := (.str [106, 116])
  news := []
  hi := 1001

def ent43 : Ent where
  k := 99
  args := [(.sl 1000 0 37 37 true)]
  need := [asciiObj, (1000, (.cells 69 74 [(.int .i64 (.ofNat 1)), (.int .i64 (.ofNat 1)), (.int .i64 (.ofNat 2)), (.int .i64 (.ofNat 2)), (.int .i64 (.ofNat 3)), (.int .i64 (.ofNat 1)), (.int .i64 (.ofNat 4)), (.int .i64 (.ofNat 1)), (.int .i64 (.ofNat 5)), (.int .i64 (.ofNat 3)), (.int .i64 (.ofNat 6)), (.int .i64 (.ofNat 1)), (.int .i64 (.ofNat 7)), (.int .i64 (.ofNat 1)), (.int .i64 (.ofNat 8)), (.int .i64 (.ofNat 1)), (.int .i64 (.ofNat 9)), (.int .i64 (.ofNat 1)), (.int .i64 (.ofNat 10)), (.int .i64 (.ofNat 1)), (.int .i64 (.ofNat 11)), (.int .i64 (.ofNat 1)), (.int .i64 (.ofNat 12)), (.int .i64 (.ofNat 1)), (.int .i64 (.ofNat 13)), (.int .i64 (.ofNat 1)), (.int .i64 (.ofNat 14)), (.int .i64 (.ofNat 1)), (.int .i64 (.ofNat 15)), (.int .i64 (.ofNat 12)), (.int .i64 (.ofNat 16)), (.int .i64 (.ofNat 1)), (.int .i64 (.ofNat 17)), (.int .i64 (.ofNat 1)), (.int .i64 (.ofNat 18)), (.int .i64 (.ofNat 1)), (.int .i64 (.ofNat 19)), (.int .i64 (.ofNat 1)), (.int .i64 (.ofNat 20)), (.int .i64 (.ofNat 1)), (.int .i64 (.ofNat 21)), (.int .i64 (.ofNat 1)), (.int .i64 (.ofNat 22)), (.int .i64 (.ofNat 3)), (.int .i64 (.ofNat 23)), (.int .i64 (.ofNat 2)), (.int .i64 (.ofNat 24)), (.int .i64 (.ofNat 2)), (.int .i64 (.ofNat 25)), (.int .i64 (.ofNat 2)), (.int .i64 (.ofNat 26)), (.int .i64 (.ofNat 4)), (.int .i64 (.ofNat 27)), (.int .i64 (.ofNat 1)), (.int .i64 (.ofNat 28)), (.int .i64 (.ofNat 1)), (.int .i64 (.ofNat 29)), (.int .i64 (.ofNat 1)), (.int .i64 (.ofNat 30)), (.int .i64 (.ofNat 3)), (.int .i64 (.ofNat 31)), (.int .i64 (.ofNat 6)), (.int .i64 (.ofNat 32)), (.int .i64 (.ofNat 4)), (.int .i64 (.ofNat 33)), (.int .i64 (.ofNat 1)), (.int .i64 (.ofNat 34)), (.int .i64 (.ofNat 1)), (.int .i64 (.ofNat 35)), (.int .i64 (.ofNat 1)), (.int .i64 (.ofNat 36)), (.int .i64 (.ofNat 1)), (.int .i64 (.ofNat 37)), (.int .i64 (.ofNat 2))] .leaf true false none))]
  n0 := 1001
  v := (.tup [(.int .i64 (.ofNat 0)), (.int .i64 (.ofNat 0))])
  news := []
  hi := 1075

def ent44 : Ent where
  k := 46
  args := [(.agg [(.int .i64 (.ofNat 1)), (.sl 1000 0 1 1 true)])]
  need := [(1000, (.cells 140 6 [.nils, (.sl 1001 0 1 1 true), (.int .i64 (.ofNat 4)), (.sl 1002 0 1 1 true), .nils, (.int .i32 (.ofNat 0))] .leaf true false none)), (1001, (.cells 157 5 [(.int .i64 (.ofNat 2)), (.int .i64 (.ofNat 1)), (.int .i64 (.ofNat 0)), (.sl 1003 0 2 2 true), (.int .i32 (.ofNat 0))] .leaf true false none)), (1002, (.cells 3 1 [(.int .i64 (.ofNat 1))] .leaf true false none)), (1003, (.cells 3 2 [(.int .i64 (.ofNat 0)), (.int .i64 (.ofNat 0))] .leaf true false none))]
  n0 := 1004
  v := (.tup [(.int .i64 (.ofNat 0)), (.int .i64 (.ofNat 0)), (.int .i64 (.ofNat 0))])
  news := []
  hi := 1056

def ent45 : Ent where
  k := 301
  args := [(.agg [(.int .i64 (.ofNat 1)), (.sl 1000 0 1 1 true)]), (.int .i64 (.ofNat 0)), (.int .i64 (.ofNat 1)), (.int .i64 (.ofNat 0))]
  need := [(1000, (.cells 140 6 [.nils, (.sl 1001 0 1 1 true), (.int .i64 (.ofNat 4)), (.sl 1002 0 1 1 true), .nils, (.int .i32 (.ofNat 0))] .leaf true false none)), (1001, (.cells 157 5 [(.int .i64 (.ofNat 2)), (.int .i64 (.ofNat 1)), (.int .i64 (.ofNat 0)), (.sl 1003 0 2 2 true), (.int .i32 (.ofNat 0))] .leaf true false none)), (1002, (.cells 3 1 [(.int .i64 (.ofNat 1))] .leaf true false none)), (1003, (.cells 3 2 [(.int .i64 (.ofNat 0)), (.int .i64 (.ofNat 0))] .leaf true false none))]
  n0 := 1004
  v := (.tup [(.agg [(.int .i64 (.ofNat 1)), (.sl 1000 0 1 1 true), (.int .i64 (.ofNat 0)), (.int .i64 (.ofNat 0)), (.int .i64 (.ofNat 0)), .nils, (.int .i32 (.ofNat 0)), (.int .i64 (.ofNat 4)), (.sl 1002 0 1 1 true), .nils, (.int .i32 (.ofNat 0)), (.bool true), (.int .i64 (.ofNat 0))]), (.bool true)])
  news := []
  hi := 1007

def ent46 : Ent where
  k := 301
  args := [(.agg [(.int .i64 (.ofNat 1)), (.sl 1000 0 1 1 true)]), (.int .i64 (.ofNat 0)), (.int .i64 (.ofNat 0)), (.int .i64 (.ofNat 0))]
  need := [(1000, (.cells 140 6 [.nils, (.sl 1001 0 1 1 true), (.int .i64 (.ofNat 4)), (.sl 1002 0 1 1 true), .nils, (.int .i32 (.ofNat 0))] .leaf true false none)), (1001, (.cells 157 5 [(.int .i64 (.ofNat 2)), (.int .i64 (.ofNat 1)), (.int .i64 (.ofNat 0)), (.sl 1003 0 2 2 true), (.int .i32 (.ofNat 0))] .leaf true false none)), (1002, (.cells 3 1 [(.int .i64 (.ofNat 1))] .leaf true false none)), (1003, (.cells 3 2 [(.int .i64 (.ofNat 0)), (.int .i64 (.ofNat 0))] .leaf true false none))]
  n0 := 1004
  v := (.tup [(.agg [(.int .i64 (.ofNat 1)), (.sl 1000 0 1 1 true), (.int .i64 (.ofNat 2)), (.int .i64 (.ofNat 1)), (.int .i64 (.ofNat 0)), (.sl 1003 0 2 2 true), (.int .i32 (.ofNat 0)), (.int .i64 (.ofNat 0)), .nils, .nils, (.int .i32 (.ofNat 0)), (.bool false), (.int .i64 (.ofNat 0))]), (.bool true)])
  news := []
  hi := 1007

def ent47 : Ent where
  k := 451
  args := [(.agg [(.int .i64 (.ofNat 1)), (.sl 1000 0 1 1 true), (.int .i64 (.ofNat 2)), (.int .i64 (.ofNat 1)), (.int .i64 (.ofNat 0)), (.sl 1001 0 2 2 true), (.int .i32 (.ofNat 0)), (.int .i64 (.ofNat 0)), .nils, .nils, (.int .i32 (.ofNat 0)), (.bool false), (.int .i64 (.ofNat 0))])]
  need := [(1000, (.cells 140 6 [.nils, (.sl 1002 0 1 1 true), (.int .i64 (.ofNat 4)), (.sl 1003 0 1 1 true), .nils, (.int .i32 (.ofNat 0))] .leaf true false none)), (1001, (.cells 3 2 [(.int .i64 (.ofNat 0)), (.int .i64 (.ofNat 0))] .leaf true false none)), (1002, (.cells 157 5 [(.int .i64 (.ofNat 2)), (.int .i64 (.ofNat 1)), (.int .i64 (.ofNat 0)), (.sl 1001 0 2 2 true), (.int .i32 (.ofNat 0))] .leaf true false none)), (1003, (.cells 3 1 [(.int .i64 (.ofNat 1))] .leaf true false none))]
  n0 := 1004
  v := (.map 1007)
  news := [(1004, (.cells 437 13 [(.int .i64 (.ofNat 1)), (.sl 1000 0 1 1 true), (.int .i64 (.ofNat 2)), (.int .i64 (.ofNat 1)), (.int .i64 (.ofNat 0)), (.sl 1001 0 2 2 true), (.int .i32 (.ofNat 0)), (.int .i64 (.ofNat 0)), .nils, .nils, (.int .i32 (.ofNat 0)), (.bool false), (.int .i64 (.ofNat 0))] .leaf false false none)), (1005, (.cells 157 5 [(.int .i64 (.ofNat 0)), (.int .i64 (.ofNat 0)), (.int .i64 (.ofNat 0)), .nils, (.int .i32 (.ofNat 0))] (.node (.node (.node .leaf (some (.sl 1001 0 2 2 true)) .leaf) (some (.int .i64 (.ofNat 1))) .leaf) (some (.int .i64 (.ofNat 2))) (.node (.node .leaf (some (.int .i32 (.ofNat 0))) .leaf) (some (.int .i64 (.ofNat 0))) .leaf)) false false none)), (1006, (.cells 588 1 [.nilf] (.node .leaf (some (.fn 578 [] [])) .leaf) false false none)), (1007, (.map [⟨(.int .i64 (.ofNat 1)), (.fn 578 [] []), 0⟩, ⟨(.int .i64 (.ofNat 2)), (.fn 578 [] []), 1⟩, ⟨(.int .i64 (.ofNat 3)), (.fn 583 [] [(.ptr 1010 0), (.ptr 1005 0)]), 2⟩, ⟨(.int .i64 (.ofNat 4)), (.fn 578 [] []), 3⟩, ⟨(.int .i64 (.ofNat 5)), (.fn 578 [] []), 4⟩, ⟨(.int .i64 (.ofNat 6)), (.fn 578 [] []), 5⟩, ⟨(.int .i64 (.ofNat 7)), (.fn 578 [] []), 6⟩, ⟨(.int .i64 (.ofNat 8)), (.fn 578 [] []), 7⟩, ⟨(.int .i64 (.ofNat 9)), (.fn 578 [] []), 8⟩, ⟨(.int .i64 (.ofNat 10)), (.fn 578 [] []), 9⟩, ⟨(.int .i64 (.ofNat 11)), (.fn 578 [] []), 10⟩, ⟨(.int .i64 (.ofNat 12)), (.fn 578 [] []), 11⟩, ⟨(.int .i64 (.ofNat 13)), (.fn 578 [] []), 12⟩, ⟨(.int .i64 (.ofNat 14)), (.fn 578 [] []), 13⟩, ⟨(.int .i64 (.ofNat 15)), (.fn 578 [] []), 14⟩, ⟨(.int .i64 (.ofNat 16)), (.fn 585 [] [(.ptr 1004 0), (.ptr 1005 0), (.ptr 1025 0), (.ptr 1026 0), (.ptr 1024 0), (.ptr 1027 0)]), 15⟩, ⟨(.int .i64 (.ofNat 17)), (.fn 578 [] []), 16⟩, ⟨(.int .i64 (.ofNat 18)), (.fn 578 [] []), 17⟩, ⟨(.int .i64 (.ofNat 19)), (.fn 578 [] []), 18⟩, ⟨(.int .i64 (.ofNat 20)), (.fn 578 [] []), 19⟩, ⟨(.int .i64 (.ofNat 21)), (.fn 578 [] []), 20⟩, ⟨(.int .i64 (.ofNat 22)), (.fn 587 [] [(.ptr 1004 0), (.ptr 1005 0), (.ptr 1006 0)]), 21⟩, ⟨(.int .i64 (.ofNat 23)), (.fn 578 [] []), 22⟩, ⟨(.int .i64 (.ofNat 24)), (.fn 578 [] []), 23⟩, ⟨(.int .i64 (.ofNat 25)), (.fn 578 [] []), 24⟩, ⟨(.int .i64 (.ofNat 26)), (.fn 578 [] []), 25⟩, ⟨(.int .i64 (.ofNat 27)), (.fn 578 [] []), 26⟩, ⟨(.int .i64 (.ofNat 28)), (.fn 578 [] []), 27⟩, ⟨(.int .i64 (.ofNat 29)), (.fn 578 [] []), 28⟩, ⟨(.int .i64 (.ofNat 30)), (.fn 578 [] []), 29⟩, ⟨(.int .i64 (.ofNat 31)), (.fn 578 [] []), 30⟩, ⟨(.int .i64 (.ofNat 32)), (.fn 578 [] []), 31⟩] 32)), (1010, (.cells 3 1 [(.int .i64 (.ofNat 0))] (.node .leaf (some (.int .i64 (.ofNat 2))) .leaf) false false none)), (1024, (.cells 3 1 [(.int .i64 (.ofNat 18))] .leaf false false none)), (1025, (.cells 3 1 [(.int .i64 (.negSucc 127))] .leaf false false none)), (1026, (.cells 3 1 [(.int .i64 (.ofNat 127))] .leaf false false none)), (1027, (.cells 3 1 [(.int .i64 (.ofNat 1))] .leaf false false none))]
  hi := 1063

def ent48 : Ent where
  k := 174
  args := [(.sl 1000 0 37 37 true), (.agg [(.int .i64 (.ofNat 1)), (.sl 1001 0 1 1 true)])]
  need := [asciiObj, (1000, (.cells 69 74 [(.int .i64 (.ofNat 1)), (.int .i64 (.ofNat 1)), (.int .i64 (.ofNat 2)), (.int .i64 (.ofNat 2)), (.int .i64 (.ofNat 3)), (.int .i64 (.ofNat 1)), (.int .i64 (.ofNat 4)), (.int .i64 (.ofNat 1)), (.int .i64 (.ofNat 5)), (.int .i64 (.ofNat 3)), (.int .i64 (.ofNat 6)), (.int .i64 (.ofNat 1)), (.int .i64 (.ofNat 7)), (.int .i64 (.ofNat 1)), (.int .i64 (.ofNat 8)), (.int .i64 (.ofNat 1)), (.int .i64 (.ofNat 9)), (.int .i64 (.ofNat 1)), (.int .i64 (.ofNat 10)), (.int .i64 (.ofNat 1)), (.int .i64 (.ofNat 11)), (.int .i64 (.ofNat 1)), (.int .i64 (.ofNat 12)), (.int .i64 (.ofNat 1)), (.int .i64 (.ofNat 13)), (.int .i64 (.ofNat 1)), (.int .i64 (.ofNat 14)), (.int .i64 (.ofNat 1)), (.int .i64 (.ofNat 15)), (.int .i64 (.ofNat 12)), (.int .i64 (.ofNat 16)), (.int .i64 (.ofNat 1)), (.int .i64 (.ofNat 17)), (.int .i64 (.ofNat 1)), (.int .i64 (.ofNat 18)), (.int .i64 (.ofNat 1)), (.int .i64 (.ofNat 19)), (.int .i64 (.ofNat 1)), (.int .i64 (.ofNat 20)), (.int .i64 (.ofNat 1)), (.int .i64 (.ofNat 21)), (.int .i64 (.ofNat 1)), (.int .i64 (.ofNat 22)), (.int .i64 (.ofNat 3)), (.int .i64 (.ofNat 23)), (.int .i64 (.ofNat 2)), (.int .i64 (.ofNat 24)), (.int .i64 (.ofNat 2)), (.int .i64 (.ofNat 25)), (.int .i64 (.ofNat 2)), (.int .i64 (.ofNat 26)), (.int .i64 (.ofNat 4)), (.int .i64 (.ofNat 27)), (.int .i64 (.ofNat 1)), (.int .i64 (.ofNat 28)), (.int .i64 (.ofNat 1)), (.int .i64 (.ofNat 29)), (.int .i64 (.ofNat 1)), (.int .i64 (.ofNat 30)), (.int .i64 (.ofNat 3)), (.int .i64 (.ofNat 31)), (.int .i64 (.ofNat 6)), (.int .i64 (.ofNat 32)), (.int .i64 (.ofNat 4)), (.int .i64 (.ofNat 33)), (.int .i64 (.ofNat 1)), (.int .i64 (.ofNat 34)), (.int .i64 (.ofNat 1)), (.int .i64 (.ofNat 35)), (.int .i64 (.ofNat 1)), (.int .i64 (.ofNat 36)), (.int .i64 (.ofNat 1)), (.int .i64 (.ofNat 37)), (.int .i64 (.ofNat 2))] .leaf true false none)), (1001, (.cells 140 6 [.nils, (.sl 1002 0 1 1 true), (.int .i64 (.ofNat 4)), (.sl 1003 0 1 1 true), .nils, (.int .i32 (.ofNat 0))] .leaf true false none)), (1002, (.cells 157 5 [(.int .i64 (.ofNat 2)), (.int .i64 (.ofNat 1)), (.int .i64 (.ofNat 0)), (.sl 1004 0 2 2 true), (.int .i32 (.ofNat 0))] .leaf true false none)), (1003, (.cells 3 1 [(.int .i64 (.ofNat 1))] .leaf true false none)), (1004, (.cells 3 2 [(.int .i64 (.ofNat 0)), (.int .i64 (.ofNat 0))] .leaf true false none))]
  n0 := 1005
  v := (.tup [(.int .i64 (.ofNat 0)), (.int .i64 (.ofNat 0)), (.int .i64 (.ofNat 0))])
  news := []
  hi := 1289

def ent49 : Ent where
  k := 214
  args := [(.agg [(.int .i64 (.ofNat 1)), (.sl 1000 0 1 1 true)]), (.int .i64 (.ofNat 0)), (.int .i64 (.ofNat 0)), (.int .i64 (.ofNat 1))]
  need := [(1000, (.cells 140 6 [.nils, (.sl 1001 0 1 1 true), (.int .i64 (.ofNat 4)), (.sl 1002 0 1 1 true), .nils, (.int .i32 (.ofNat 0))] .leaf true false none)), (1001, (.cells 157 5 [(.int .i64 (.ofNat 2)), (.int .i64 (.ofNat 1)), (.int .i64 (.ofNat 0)), (.sl 1003 0 2 2 true), (.int .i32 (.ofNat 0))] .leaf true false none)), (1002, (.cells 3 1 [(.int .i64 (.ofNat 1))] .leaf true false none)), (1003, (.cells 3 2 [(.int .i64 (.ofNat 0)), (.int .i64 (.ofNat 0))] .leaf true false none))]
  n0 := 1004
  v := (.tup [.nils, .nils, (.bool false)])
  news := []
  hi := 1125

def ent50 : Ent where
  k := 214
  args := [(.agg [(.int .i64 (.ofNat 1)), (.sl 1000 0 1 1 true)]), (.int .i64 (.ofNat 0)), (.int .i64 (.ofNat 0)), (.int .i64 (.ofNat 2))]
  need := [(1000, (.cells 140 6 [.nils, (.sl 1001 0 1 1 true), (.int .i64 (.ofNat 4)), (.sl 1002 0 1 1 true), .nils, (.int .i32 (.ofNat 0))] .leaf true false none)), (1001, (.cells 157 5 [(.int .i64 (.ofNat 2)), (.int .i64 (.ofNat 1)), (.int .i64 (.ofNat 0)), (.sl 1003 0 2 2 true), (.int .i32 (.ofNat 0))] .leaf true false none)), (1002, (.cells 3 1 [(.int .i64 (.ofNat 1))] .leaf true false none)), (1003, (.cells 3 2 [(.int .i64 (.ofNat 0)), (.int .i64 (.ofNat 0))] .leaf true false none))]
  n0 := 1004
  v := (.tup [.nils, .nils, (.bool false)])
  news := []
  hi := 1125

def ent51 : Ent where
  k := 214
  args := [(.agg [(.int .i64 (.ofNat 1)), (.sl 1000 0 1 1 true)]), (.int .i64 (.ofNat 0)), (.int .i64 (.ofNat 0)), (.int .i64 (.ofNat 3))]
  need := [(1000, (.cells 140 6 [.nils, (.sl 1001 0 1 1 true), (.int .i64 (.ofNat 4)), (.sl 1002 0 1 1 true), .nils, (.int .i32 (.ofNat 0))] .leaf true false none)), (1001, (.cells 157 5 [(.int .i64 (.ofNat 2)), (.int .i64 (.ofNat 1)), (.int .i64 (.ofNat 0)), (.sl 1003 0 2 2 true), (.int .i32 (.ofNat 0))] .leaf true false none)), (1002, (.cells 3 1 [(.int .i64 (.ofNat 1))] .leaf true false none)), (1003, (.cells 3 2 [(.int .i64 (.ofNat 0)), (.int .i64 (.ofNat 0))] .leaf true false none))]
  n0 := 1004
  v := (.tup [(.sl 1125 0 2 2 true), .nils, (.bool true)])
  news := [(1125, (.cells 3 2 [(.int .i64 (.ofNat 0)), (.int .i64 (.ofNat 0))] .leaf true false none))]
  hi := 1130

def ent52 : Ent where
  k := 214
  args := [(.agg [(.int .i64 (.ofNat 1)), (.sl 1000 0 1 1 true)]), (.int .i64 (.ofNat 0)), (.int .i64 (.ofNat 0)), (.int .i64 (.ofNat 4))]
  need := [(1000, (.cells 140 6 [.nils, (.sl 1001 0 1 1 true), (.int .i64 (.ofNat 4)), (.sl 1002 0 1 1 true), .nils, (.int .i32 (.ofNat 0))] .leaf true false none)), (1001, (.cells 157 5 [(.int .i64 (.ofNat 2)), (.int .i64 (.ofNat 1)), (.int .i64 (.ofNat 0)), (.sl 1003 0 2 2 true), (.int .i32 (.ofNat 0))] .leaf true false none)), (1002, (.cells 3 1 [(.int .i64 (.ofNat 1))] .leaf true false none)), (1003, (.cells 3 2 [(.int .i64 (.ofNat 0)), (.int .i64 (.ofNat 0))] .leaf true false none))]
  n0 := 1004
  v := (.tup [.nils, .nils, (.bool false)])
  news := []
  hi := 1125

def ent53 : Ent where
  k := 214
  args := [(.agg [(.int .i64 (.ofNat 1)), (.sl 1000 0 1 1 true)]), (.int .i64 (.ofNat 0)), (.int .i64 (.ofNat 0)), (.int .i64 (.ofNat 5))]
  need := [(1000, (.cells 140 6 [.nils, (.sl 1001 0 1 1 true), (.int .i64 (.ofNat 4)), (.sl 1002 0 1 1 true), .nils, (.int .i32 (.ofNat 0))] .leaf true false none)), (1001, (.cells 157 5 [(.int .i64 (.ofNat 2)), (.int .i64 (.ofNat 1)), (.int .i64 (.ofNat 0)), (.sl 1003 0 2 2 true), (.int .i32 (.ofNat 0))] .leaf true false none)), (1002, (.cells 3 1 [(.int .i64 (.ofNat 1))] .leaf true false none)), (1003, (.cells 3 2 [(.int .i64 (.ofNat 0)), (.int .i64 (.ofNat 0))] .leaf true false none))]
  n0 := 1004
  v := (.tup [.nils, .nils, (.bool false)])
  news := []
  hi := 1125

def ent54 : Ent where
  k := 214
  args := [(.agg [(.int .i64 (.ofNat 1)), (.sl 1000 0 1 1 true)]), (.int .i64 (.ofNat 0)), (.int .i64 (.ofNat 0)), (.int .i64 (.ofNat 6))]
  need := [(1000, (.cells 140 6 [.nils, (.sl 1001 0 1 1 true), (.int .i64 (.ofNat 4)), (.sl 1002 0 1 1 true), .nils, (.int .i32 (.ofNat 0))] .leaf true false none)), (1001, (.cells 157 5 [(.int .i64 (.ofNat 2)), (.int .i64 (.ofNat 1)), (.int .i64 (.ofNat 0)), (.sl 1003 0 2 2 true), (.int .i32 (.ofNat 0))] .leaf true false none)), (1002, (.cells 3 1 [(.int .i64 (.ofNat 1))] .leaf true false none)), (1003, (.cells 3 2 [(.int .i64 (.ofNat 0)), (.int .i64 (.ofNat 0))] .leaf true false none))]
  n0 := 1004
  v := (.tup [.nils, .nils, (.bool false)])
  news := []
  hi := 1125

def ent55 : Ent where
  k := 214
  args := [(.agg [(.int .i64 (.ofNat 1)), (.sl 1000 0 1 1 true)]), (.int .i64 (.ofNat 0)), (.int .i64 (.ofNat 0)), (.int .i64 (.ofNat 7))]
  need := [(1000, (.cells 140 6 [.nils, (.sl 1001 0 1 1 true), (.int .i64 (.ofNat 4)), (.sl 1002 0 1 1 true), .nils, (.int .i32 (.ofNat 0))] .leaf true false none)), (1001, (.cells 157 5 [(.int .i64 (.ofNat 2)), (.int .i64 (.ofNat 1)), (.int .i64 (.ofNat 0)), (.sl 1003 0 2 2 true), (.int .i32 (.ofNat 0))] .leaf true false none)), (1002, (.cells 3 1 [(.int .i64 (.ofNat 1))] .leaf true false none)), (1003, (.cells 3 2 [(.int .i64 (.ofNat 0)), (.int .i64 (.ofNat 0))] .leaf true false none))]
  n0 := 1004
  v := (.tup [.nils, .nils, (.bool false)])
  news := []
  hi := 1125

def ent56 : Ent where
  k := 214
  args := [(.agg [(.int .i64 (.ofNat 1)), (.sl 1000 0 1 1 true)]), (.int .i64 (.ofNat 0)), (.int .i64 (.ofNat 0)), (.int .i64 (.ofNat 8))]
  need := [(1000, (.cells 140 6 [.nils, (.sl 1001 0 1 1 true), (.int .i64 (.ofNat 4)), (.sl 1002 0 1 1 true), .nils, (.int .i32 (.ofNat 0))] .leaf true false none)), (1001, (.cells 157 5 [(.int .i64 (.ofNat 2)), (.int .i64 (.ofNat 1)), (.int .i64 (.ofNat 0)), (.sl 1003 0 2 2 true), (.int .i32 (.ofNat 0))] .leaf true false none)), (1002, (.cells 3 1 [(.int .i64 (.ofNat 1))] .leaf true false none)), (1003, (.cells 3 2 [(.int .i64 (.ofNat 0)), (.int .i64 (.ofNat 0))] .leaf true false none))]
  n0 := 1004
  v := (.tup [.nils, .nils, (.bool false)])
  news := []
  hi := 1125

def ent57 : Ent where
  k := 214
  args := [(.agg [(.int .i64 (.ofNat 1)), (.sl 1000 0 1 1 true)]), (.int .i64 (.ofNat 0)), (.int .i64 (.ofNat 0)), (.int .i64 (.ofNat 9))]
  need := [(1000, (.cells 140 6 [.nils, (.sl 1001 0 1 1 true), (.int .i64 (.ofNat 4)), (.sl 1002 0 1 1 true), .nils, (.int .i32 (.ofNat 0))] .leaf true false none)), (1001, (.cells 157 5 [(.int .i64 (.ofNat 2)), (.int .i64 (.ofNat 1)), (.int .i64 (.ofNat 0)), (.sl 1003 0 2 2 true), (.int .i32 (.ofNat 0))] .leaf true false none)), (1002, (.cells 3 1 [(.int .i64 (.ofNat 1))] .leaf true false none)), (1003, (.cells 3 2 [(.int .i64 (.ofNat 0)), (.int .i64 (.ofNat 0))] .leaf true false none))]
  n0 := 1004
  v := (.tup [.nils, .nils, (.bool false)])
  news := []
  hi := 1125

def ent58 : Ent where
  k := 214
  args := [(.agg [(.int .i64 (.ofNat 1)), (.sl 1000 0 1 1 true)]), (.int .i64 (.ofNat 0)), (.int .i64 (.ofNat 0)), (.int .i64 (.ofNat 10))]
  need := [(1000, (.cells 140 6 [.nils, (.sl 1001 0 1 1 true), (.int .i64 (.ofNat 4)), (.sl 1002 0 1 1 true), .nils, (.int .i32 (.ofNat 0))] .leaf true false none)), (1001, (.cells 157 5 [(.int .i64 (.ofNat 2)), (.int .i64 (.ofNat 1)), (.int .i64 (.ofNat 0)), (.sl 1003 0 2 2 true), (.int .i32 (.ofNat 0))] .leaf true false none)), (1002, (.cells 3 1 [(.int .i64 (.ofNat 1))] .leaf true false none)), (1003, (.cells 3 2 [(.int .i64 (.ofNat 0)), (.int .i64 (.ofNat 0))] .leaf true false none))]
  n0 := 1004
  v := (.tup [.nils, .nils, (.bool false)])
  news := []
  hi := 1125

def ent59 : Ent where
  k := 214
  args := [(.agg [(.int .i64 (.ofNat 1)), (.sl 1000 0 1 1 true)]), (.int .i64 (.ofNat 0)), (.int .i64 (.ofNat 0)), (.int .i64 (.ofNat 11))]
  need := [(1000, (.cells 140 6 [.nils, (.sl 1001 0 1 1 true), (.int .i64 (.ofNat 4)), (.sl 1002 0 1 1 true), .nils, (.int .i32 (.ofNat 0))] .leaf true false none)), (1001, (.cells 157 5 [(.int .i64 (.ofNat 2)), (.int .i64 (.ofNat 1)), (.int .i64 (.ofNat 0)), (.sl 1003 0 2 2 true), (.int .i32 (.ofNat 0))] .leaf true false none)), (1002, (.cells 3 1 [(.int .i64 (.ofNat 1))] .leaf true false none)), (1003, (.cells 3 2 [(.int .i64 (.ofNat 0)), (.int .i64 (.ofNat 0))] .leaf true false none))]
  n0 := 1004
  v := (.tup [.nils, .nils, (.bool false)])
  news := []
  hi := 1125

def ent60 : Ent where
  k := 214
  args := [(.agg [(.int .i64 (.ofNat 1)), (.sl 1000 0 1 1 true)]), (.int .i64 (.ofNat 0)), (.int .i64 (.ofNat 0)), (.int .i64 (.ofNat 12))]
  need := [(1000, (.cells 140 6 [.nils, (.sl 1001 0 1 1 true), (.int .i64 (.ofNat 4)), (.sl 1002 0 1 1 true), .nils, (.int .i32 (.ofNat 0))] .leaf true false none)), (1001, (.cells 157 5 [(.int .i64 (.ofNat 2)), (.int .i64 (.ofNat 1)), (.int .i64 (.ofNat 0)), (.sl 1003 0 2 2 true), (.int .i32 (.ofNat 0))] .leaf true false none)), (1002, (.cells 3 1 [(.int .i64 (.ofNat 1))] .leaf true false none)), (1003, (.cells 3 2 [(.int .i64 (.ofNat 0)), (.int .i64 (.ofNat 0))] .leaf true false none))]
  n0 := 1004
  v := (.tup [.nils, .nils, (.bool false)])
  news := []
  hi := 1125

def ent61 : Ent where
  k := 214
  args := [(.agg [(.int .i64 (.ofNat 1)), (.sl 1000 0 1 1 true)]), (.int .i64 (.ofNat 0)), (.int .i64 (.ofNat 0)), (.int .i64 (.ofNat 13))]
  need := [(1000, (.cells 140 6 [.nils, (.sl 1001 0 1 1 true), (.int .i64 (.ofNat 4)), (.sl 1002 0 1 1 true), .nils, (.int .i32 (.ofNat 0))] .leaf true false none)), (1001, (.cells 157 5 [(.int .i64 (.ofNat 2)), (.int .i64 (.ofNat 1)), (.int .i64 (.ofNat 0)), (.sl 1003 0 2 2 true), (.int .i32 (.ofNat 0))] .leaf true false none)), (1002, (.cells 3 1 [(.int .i64 (.ofNat 1))] .leaf true false none)), (1003, (.cells 3 2 [(.int .i64 (.ofNat 0)), (.int .i64 (.ofNat 0))] .leaf true false none))]
  n0 := 1004
  v := (.tup [.nils, .nils, (.bool false)])
  news := []
  hi := 1125

def ent62 : Ent where
  k := 214
  args := [(.agg [(.int .i64 (.ofNat 1)), (.sl 1000 0 1 1 true)]), (.int .i64 (.ofNat 0)), (.int .i64 (.ofNat 0)), (.int .i64 (.ofNat 14))]
  need := [(1000, (.cells 140 6 [.nils, (.sl 1001 0 1 1 true), (.int .i64 (.ofNat 4)), (.sl 1002 0 1 1 true), .nils, (.int .i32 (.ofNat 0))] .leaf true false none)), (1001, (.cells 157 5 [(.int .i64 (.ofNat 2)), (.int .i64 (.ofNat 1)), (.int .i64 (.ofNat 0)), (.sl 1003 0 2 2 true), (.int .i32 (.ofNat 0))] .leaf true false none)), (1002, (.cells 3 1 [(.int .i64 (.ofNat 1))] .leaf true false none)), (1003, (.cells 3 2 [(.int .i64 (.ofNat 0)), (.int .i64 (.ofNat 0))] .leaf true false none))]
  n0 := 1004
  v := (.tup [.nils, .nils, (.bool false)])
  news := []
  hi := 1125

def ent63 : Ent where
  k := 214
  args := [(.agg [(.int .i64 (.ofNat 1)), (.sl 1000 0 1 1 true)]), (.int .i64 (.ofNat 0)), (.int .i64 (.ofNat 0)), (.int .i64 (.ofNat 15))]
  need := [(1000, (.cells 140 6 [.nils, (.sl 1001 0 1 1 true), (.int .i64 (.ofNat 4)), (.sl 1002 0 1 1 true), .nils, (.int .i32 (.ofNat 0))] .leaf true false none)), (1001, (.cells 157 5 [(.int .i64 (.ofNat 2)), (.int .i64 (.ofNat 1)), (.int .i64 (.ofNat 0)), (.sl 1003 0 2 2 true), (.int .i32 (.ofNat 0))] .leaf true false none)), (1002, (.cells 3 1 [(.int .i64 (.ofNat 1))] .leaf true false none)), (1003, (.cells 3 2 [(.int .i64 (.ofNat 0)), (.int .i64 (.ofNat 0))] .leaf true false none))]
  n0 := 1004
  v := (.tup [.nils, .nils, (.bool false)])
  news := []
  hi := 1125

def ent64 : Ent where
  k := 214
  args := [(.agg [(.int .i64 (.ofNat 1)), (.sl 1000 0 1 1 true)]), (.int .i64 (.ofNat 0)), (.int .i64 (.ofNat 0)), (.int .i64 (.ofNat 16))]
  need := [(1000, (.cells 140 6 [.nils, (.sl 1001 0 1 1 true), (.int .i64 (.ofNat 4)), (.sl 1002 0 1 1 true), .nils, (.int .i32 (.ofNat 0))] .leaf true false none)), (1001, (.cells 157 5 [(.int .i64 (.ofNat 2)), (.int .i64 (.ofNat 1)), (.int .i64 (.ofNat 0)), (.sl 1003 0 2 2 true), (.int .i32 (.ofNat 0))] .leaf true false none)), (1002, (.cells 3 1 [(.int .i64 (.ofNat 1))] .leaf true false none)), (1003, (.cells 3 2 [(.int .i64 (.ofNat 0)), (.int .i64 (.ofNat 0))] .leaf true false none))]
  n0 := 1004
  v := (.tup [.nils, .nils, (.bool false)])
  news := []
  hi := 1140

def ent65 : Ent where
  k := 214
  args := [(.agg [(.int .i64 (.ofNat 1)), (.sl 1000 0 1 1 true)]), (.int .i64 (.ofNat 0)), (.int .i64 (.ofNat 0)), (.int .i64 (.ofNat 17))]
  need := [(1000, (.cells 140 6 [.nils, (.sl 1001 0 1 1 true), (.int .i64 (.ofNat 4)), (.sl 1002 0 1 1 true), .nils, (.int .i32 (.ofNat 0))] .leaf true false none)), (1001, (.cells 157 5 [(.int .i64 (.ofNat 2)), (.int .i64 (.ofNat 1)), (.int .i64 (.ofNat 0)), (.sl 1003 0 2 2 true), (.int .i32 (.ofNat 0))] .leaf true false none)), (1002, (.cells 3 1 [(.int .i64 (.ofNat 1))] .leaf true false none)), (1003, (.cells 3 2 [(.int .i64 (.ofNat 0)), (.int .i64 (.ofNat 0))] .leaf true false none))]
  n0 := 1004
  v := (.tup [.nils, .nils, (.bool false)])
  news := []
  hi := 1125

def ent66 : Ent where
  k := 214
  args := [(.agg [(.int .i64 (.ofNat 1)), (.sl 1000 0 1 1 true)]), (.int .i64 (.ofNat 0)), (.int .i64 (.ofNat 0)), (.int .i64 (.ofNat 18))]
  need := [(1000, (.cells 140 6 [.nils, (.sl 1001 0 1 1 true), (.int .i64 (.ofNat 4)), (.sl 1002 0 1 1 true), .nils, (.int .i32 (.ofNat 0))] .leaf true false none)), (1001, (.cells 157 5 [(.int .i64 (.ofNat 2)), (.int .i64 (.ofNat 1)), (.int .i64 (.ofNat 0)), (.sl 1003 0 2 2 true), (.int .i32 (.ofNat 0))] .leaf true false none)), (1002, (.cells 3 1 [(.int .i64 (.ofNat 1))] .leaf true false none)), (1003, (.cells 3 2 [(.int .i64 (.ofNat 0)), (.int .i64 (.ofNat 0))] .leaf true false none))]
  n0 := 1004
  v := (.tup [.nils, .nils, (.bool false)])
  news := []
  hi := 1125

def ent67 : Ent where
  k := 214
  args := [(.agg [(.int .i64 (.ofNat 1)), (.sl 1000 0 1 1 true)]), (.int .i64 (.ofNat 0)), (.int .i64 (.ofNat 0)), (.int .i64 (.ofNat 19))]
  need := [(1000, (.cells 140 6 [.nils, (.sl 1001 0 1 1 true), (.int .i64 (.ofNat 4)), (.sl 1002 0 1 1 true), .nils, (.int .i32 (.ofNat 0))] .leaf true false none)), (1001, (.cells 157 5 [(.int .i64 (.ofNat 2)), (.int .i64 (.ofNat 1)), (.int .i64 (.ofNat 0)), (.sl 1003 0 2 2 true), (.int .i32 (.ofNat 0))] .leaf true false none)), (1002, (.cells 3 1 [(.int .i64 (.ofNat 1))] .leaf true false none)), (1003, (.cells 3 2 [(.int .i64 (.ofNat 0)), (.int .i64 (.ofNat 0))] .leaf true false none))]
  n0 := 1004
  v := (.tup [.nils, .nils, (.bool false)])
  news := []
  hi := 1125

def ent68 : Ent where
  k := 214
  args := [(.agg [(.int .i64 (.ofNat 1)), (.sl 1000 0 1 1 true)]), (.int .i64 (.ofNat 0)), (.int .i64 (.ofNat 0)), (.int .i64 (.ofNat 20))]
  need := [(1000, (.cells 140 6 [.nils, (.sl 1001 0 1 1 true), (.int .i64 (.ofNat 4)), (.sl 1002 0 1 1 true), .nils, (.int .i32 (.ofNat 0))] .leaf true false none)), (1001, (.cells 157 5 [(.int .i64 (.ofNat 2)), (.int .i64 (.ofNat 1)), (.int .i64 (.ofNat 0)), (.sl 1003 0 2 2 true), (.int .i32 (.ofNat 0))] .leaf true false none)), (1002, (.cells 3 1 [(.int .i64 (.ofNat 1))] .leaf true false none)), (1003, (.cells 3 2 [(.int .i64 (.ofNat 0)), (.int .i64 (.ofNat 0))] .leaf true false none))]
  n0 := 1004
  v := (.tup [.nils, .nils, (.bool false)])
  news := []
  hi := 1125

def ent69 : Ent where
  k := 214
  args := [(.agg [(.int .i64 (.ofNat 1)), (.sl 1000 0 1 1 true)]), (.int .i64 (.ofNat 0)), (.int .i64 (.ofNat 0)), (.int .i64 (.ofNat 21))]
  need := [(1000, (.cells 140 6 [.nils, (.sl 1001 0 1 1 true), (.int .i64 (.ofNat 4)), (.sl 1002 0 1 1 true), .nils, (.int .i32 (.ofNat 0))] .leaf true false none)), (1001, (.cells 157 5 [(.int .i64 (.ofNat 2)), (.int .i64 (.ofNat 1)), (.int .i64 (.ofNat 0)), (.sl 1003 0 2 2 true), (.int .i32 (.ofNat 0))] .leaf true false none)), (1002, (.cells 3 1 [(.int .i64 (.ofNat 1))] .leaf true false none)), (1003, (.cells 3 2 [(.int .i64 (.ofNat 0)), (.int .i64 (.ofNat 0))] .leaf true false none))]
  n0 := 1004
  v := (.tup [.nils, .nils, (.bool false)])
  news := []
  hi := 1125

def ent70 : Ent where
  k := 214
  args := [(.agg [(.int .i64 (.ofNat 1)), (.sl 1000 0 1 1 true)]), (.int .i64 (.ofNat 0)), (.int .i64 (.ofNat 0)), (.int .i64 (.ofNat 22))]
  need := [(1000, (.cells 140 6 [.nils, (.sl 1001 0 1 1 true), (.int .i64 (.ofNat 4)), (.sl 1002 0 1 1 true), .nils, (.int .i32 (.ofNat 0))] .leaf true false none)), (1001, (.cells 157 5 [(.int .i64 (.ofNat 2)), (.int .i64 (.ofNat 1)), (.int .i64 (.ofNat 0)), (.sl 1003 0 2 2 true), (.int .i32 (.ofNat 0))] .leaf true false none)), (1002, (.cells 3 1 [(.int .i64 (.ofNat 1))] .leaf true false none)), (1003, (.cells 3 2 [(.int .i64 (.ofNat 0)), (.int .i64 (.ofNat 0))] .leaf true false none))]
  n0 := 1004
  v := (.tup [.nils, .nils, (.bool false)])
  news := []
  hi := 1134

def ent71 : Ent where
  k := 214
  args := [(.agg [(.int .i64 (.ofNat 1)), (.sl 1000 0 1 1 true)]), (.int .i64 (.ofNat 0)), (.int .i64 (.ofNat 0)), (.int .i64 (.ofNat 23))]
  need := [(1000, (.cells 140 6 [.nils, (.sl 1001 0 1 1 true), (.int .i64 (.ofNat 4)), (.sl 1002 0 1 1 true), .nils, (.int .i32 (.ofNat 0))] .leaf true false none)), (1001, (.cells 157 5 [(.int .i64 (.ofNat 2)), (.int .i64 (.ofNat 1)), (.int .i64 (.ofNat 0)), (.sl 1003 0 2 2 true), (.int .i32 (.ofNat 0))] .leaf true false none)), (1002, (.cells 3 1 [(.int .i64 (.ofNat 1))] .leaf true false none)), (1003, (.cells 3 2 [(.int .i64 (.ofNat 0)), (.int .i64 (.ofNat 0))] .leaf true false none))]
  n0 := 1004
  v := (.tup [.nils, .nils, (.bool false)])
  news := []
  hi := 1125

def ent72 : Ent where
  k := 214
  args := [(.agg [(.int .i64 (.ofNat 1)), (.sl 1000 0 1 1 true)]), (.int .i64 (.ofNat 0)), (.int .i64 (.ofNat 0)), (.int .i64 (.ofNat 24))]
  need := [(1000, (.cells 140 6 [.nils, (.sl 1001 0 1 1 true), (.int .i64 (.ofNat 4)), (.sl 1002 0 1 1 true), .nils, (.int .i32 (.ofNat 0))] .leaf true false none)), (1001, (.cells 157 5 [(.int .i64 (.ofNat 2)), (.int .i64 (.ofNat 1)), (.int .i64 (.ofNat 0)), (.sl 1003 0 2 2 true), (.int .i32 (.ofNat 0))] .leaf true false none)), (1002, (.cells 3 1 [(.int .i64 (.ofNat 1))] .leaf true false none)), (1003, (.cells 3 2 [(.int .i64 (.ofNat 0)), (.int .i64 (.ofNat 0))] .leaf true false none))]
  n0 := 1004
  v := (.tup [.nils, .nils, (.bool false)])
  news := []
  hi := 1125

def ent73 : Ent where
  k := 214
  args := [(.agg [(.int .i64 (.ofNat 1)), (.sl 1000 0 1 1 true)]), (.int .i64 (.ofNat 0)), (.int .i64 (.ofNat 0)), (.int .i64 (.ofNat 25))]
  need := [(1000, (.cells 140 6 [.nils, (.sl 1001 0 1 1 true), (.int .i64 (.ofNat 4)), (.sl 1002 0 1 1 true), .nils, (.int .i32 (.ofNat 0))] .leaf true false none)), (1001, (.cells 157 5 [(.int .i64 (.ofNat 2)), (.int .i64 (.ofNat 1)), (.int .i64 (.ofNat 0)), (.sl 1003 0 2 2 true), (.int .i32 (.ofNat 0))] .leaf true false none)), (1002, (.cells 3 1 [(.int .i64 (.ofNat 1))] .leaf true false none)), (1003, (.cells 3 2 [(.int .i64 (.ofNat 0)), (.int .i64 (.ofNat 0))] .leaf true false none))]
  n0 := 1004
  v := (.tup [.nils, .nils, (.bool false)])
  news := []
  hi := 1125

def ent74 : Ent where
  k := 214
  args := [(.agg [(.int .i64 (.ofNat 1)), (.sl 1000 0 1 1 true)]), (.int .i64 (.ofNat 0)), (.int .i64 (.ofNat 0)), (.int .i64 (.ofNat 26))]
  need := [(1000, (.cells 140 6 [.nils, (.sl 1001 0 1 1 true), (.int .i64 (.ofNat 4)), (.sl 1002 0 1 1 true), .nils, (.int .i32 (.ofNat 0))] .leaf true false none)), (1001, (.cells 157 5 [(.int .i64 (.ofNat 2)), (.int .i64 (.ofNat 1)), (.int .i64 (.ofNat 0)), (.sl 1003 0 2 2 true), (.int .i32 (.ofNat 0))] .leaf true false none)), (1002, (.cells 3 1 [(.int .i64 (.ofNat 1))] .leaf true false none)), (1003, (.cells 3 2 [(.int .i64 (.ofNat 0)), (.int .i64 (.ofNat 0))] .leaf true false none))]
  n0 := 1004
  v := (.tup [.nils, .nils, (.bool false)])
  news := []
  hi := 1125

def ent75 : Ent where
  k := 214
  args := [(.agg [(.int .i64 (.ofNat 1)), (.sl 1000 0 1 1 true)]), (.int .i64 (.ofNat 0)), (.int .i64 (.ofNat 0)), (.int .i64 (.ofNat 27))]
  need := [(1000, (.cells 140 6 [.nils, (.sl 1001 0 1 1 true), (.int .i64 (.ofNat 4)), (.sl 1002 0 1 1 true), .nils, (.int .i32 (.ofNat 0))] .leaf true false none)), (1001, (.cells 157 5 [(.int .i64 (.ofNat 2)), (.int .i64 (.ofNat 1)), (.int .i64 (.ofNat 0)), (.sl 1003 0 2 2 true), (.int .i32 (.ofNat 0))] .leaf true false none)), (1002, (.cells 3 1 [(.int .i64 (.ofNat 1))] .leaf true false none)), (1003, (.cells 3 2 [(.int .i64 (.ofNat 0)), (.int .i64 (.ofNat 0))] .leaf true false none))]
  n0 := 1004
  v := (.tup [.nils, .nils, (.bool false)])
  news := []
  hi := 1125

def ent76 : Ent where
  k := 214
  args := [(.agg [(.int .i64 (.ofNat 1)), (.sl 1000 0 1 1 true)]), (.int .i64 (.ofNat 0)), (.int .i64 (.ofNat 0)), (.int .i64 (.ofNat 28))]
  need := [(1000, (.cells 140 6 [.nils, (.sl 1001 0 1 1 true), (.int .i64 (.ofNat 4)), (.sl 1002 0 1 1 true), .nils, (.int .i32 (.ofNat 0))] .leaf true false none)), (1001, (.cells 157 5 [(.int .i64 (.ofNat 2)), (.int .i64 (.ofNat 1)), (.int .i64 (.ofNat 0)), (.sl 1003 0 2 2 true), (.int .i32 (.ofNat 0))] .leaf true false none)), (1002, (.cells 3 1 [(.int .i64 (.ofNat 1))] .leaf true false none)), (1003, (.cells 3 2 [(.int .i64 (.ofNat 0)), (.int .i64 (.ofNat 0))] .leaf true false none))]
  n0 := 1004
  v := (.tup [.nils, .nils, (.bool false)])
  news := []
  hi := 1125

def ent77 : Ent where
  k := 214
  args := [(.agg [(.int .i64 (.ofNat 1)), (.sl 1000 0 1 1 true)]), (.int .i64 (.ofNat 0)), (.int .i64 (.ofNat 0)), (.int .i64 (.ofNat 29))]
  need := [(1000, (.cells 140 6 [.nils, (.sl 1001 0 1 1 true), (.int .i64 (.ofNat 4)), (.sl 1002 0 1 1 true), .nils, (.int .i32 (.ofNat 0))] .leaf true false none)), (1001, (.cells 157 5 [(.int .i64 (.ofNat 2)), (.int .i64 (.ofNat 1)), (.int .i64 (.ofNat 0)), (.sl 1003 0 2 2 true), (.int .i32 (.ofNat 0))] .leaf true false none)), (1002, (.cells 3 1 [(.int .i64 (.ofNat 1))] .leaf true false none)), (1003, (.cells 3 2 [(.int .i64 (.ofNat 0)), (.int .i64 (.ofNat 0))] .leaf true false none))]
  n0 := 1004
  v := (.tup [.nils, .nils, (.bool false)])
  news := []
  hi := 1125

def ent78 : Ent where
  k := 214
  args := [(.agg [(.int .i64 (.ofNat 1)), (.sl 1000 0 1 1 true)]), (.int .i64 (.ofNat 0)), (.int .i64 (.ofNat 0)), (.int .i64 (.ofNat 30))]
  need := [(1000, (.cells 140 6 [.nils, (.sl 1001 0 1 1 true), (.int .i64 (.ofNat 4)), (.sl 1002 0 1 1 true), .nils, (.int .i32 (.ofNat 0))] .leaf true false none)), (1001, (.cells 157 5 [(.int .i64 (.ofNat 2)), (.int .i64 (.ofNat 1)), (.int .i64 (.ofNat 0)), (.sl 1003 0 2 2 true), (.int .i32 (.ofNat 0))] .leaf true false none)), (1002, (.cells 3 1 [(.int .i64 (.ofNat 1))] .leaf true false none)), (1003, (.cells 3 2 [(.int .i64 (.ofNat 0)), (.int .i64 (.ofNat 0))] .leaf true false none))]
  n0 := 1004
  v := (.tup [.nils, .nils, (.bool false)])
  news := []
  hi := 1125

def ent79 : Ent where
  k := 214
  args := [(.agg [(.int .i64 (.ofNat 1)), (.sl 1000 0 1 1 true)]), (.int .i64 (.ofNat 0)), (.int .i64 (.ofNat 0)), (.int .i64 (.ofNat 31))]
  need := [(1000, (.cells 140 6 [.nils, (.sl 1001 0 1 1 true), (.int .i64 (.ofNat 4)), (.sl 1002 0 1 1 true), .nils, (.int .i32 (.ofNat 0))] .leaf true false none)), (1001, (.cells 157 5 [(.int .i64 (.ofNat 2)), (.int .i64 (.ofNat 1)), (.int .i64 (.ofNat 0)), (.sl 1003 0 2 2 true), (.int .i32 (.ofNat 0))] .leaf true false none)), (1002, (.cells 3 1 [(.int .i64 (.ofNat 1))] .leaf true false none)), (1003, (.cells 3 2 [(.int .i64 (.ofNat 0)), (.int .i64 (.ofNat 0))] .leaf true false none))]
  n0 := 1004
  v := (.tup [.nils, .nils, (.bool false)])
  news := []
  hi := 1125

def ent80 : Ent where
  k := 214
  args := [(.agg [(.int .i64 (.ofNat 1)), (.sl 1000 0 1 1 true)]), (.int .i64 (.ofNat 0)), (.int .i64 (.ofNat 0)), (.int .i64 (.ofNat 32))]
  need := [(1000, (.cells 140 6 [.nils, (.sl 1001 0 1 1 true), (.int .i64 (.ofNat 4)), (.sl 1002 0 1 1 true), .nils, (.int .i32 (.ofNat 0))] .leaf true false none)), (1001, (.cells 157 5 [(.int .i64 (.ofNat 2)), (.int .i64 (.ofNat 1)), (.int .i64 (.ofNat 0)), (.sl 1003 0 2 2 true), (.int .i32 (.ofNat 0))] .leaf true false none)), (1002, (.cells 3 1 [(.int .i64 (.ofNat 1))] .leaf true false none)), (1003, (.cells 3 2 [(.int .i64 (.ofNat 0)), (.int .i64 (.ofNat 0))] .leaf true false none))]
  n0 := 1004
  v := (.tup [.nils, .nils, (.bool false)])
  news := []
  hi := 1125

def ent81 : Ent where
  k := 214
  args := [(.agg [(.int .i64 (.ofNat 1)), (.sl 1000 0 1 1 true)]), (.int .i64 (.ofNat 0)), (.int .i64 (.ofNat 0)), (.int .i64 (.ofNat 33))]
  need := [(1000, (.cells 140 6 [.nils, (.sl 1001 0 1 1 true), (.int .i64 (.ofNat 4)), (.sl 1002 0 1 1 true), .nils, (.int .i32 (.ofNat 0))] .leaf true false none)), (1001, (.cells 157 5 [(.int .i64 (.ofNat 2)), (.int .i64 (.ofNat 1)), (.int .i64 (.ofNat 0)), (.sl 1003 0 2 2 true), (.int .i32 (.ofNat 0))] .leaf true false none)), (1002, (.cells 3 1 [(.int .i64 (.ofNat 1))] .leaf true false none)), (1003, (.cells 3 2 [(.int .i64 (.ofNat 0)), (.int .i64 (.ofNat 0))] .leaf true false none))]
  n0 := 1004
  v := (.tup [.nils, .nils, (.bool false)])
  news := []
  hi := 1124

def ent82 : Ent where
  k := 214
  args := [(.agg [(.int .i64 (.ofNat 1)), (.sl 1000 0 1 1 true)]), (.int .i64 (.ofNat 0)), (.int .i64 (.ofNat 0)), (.int .i64 (.ofNat 34))]
  need := [(1000, (.cells 140 6 [.nils, (.sl 1001 0 1 1 true), (.int .i64 (.ofNat 4)), (.sl 1002 0 1 1 true), .nils, (.int .i32 (.ofNat 0))] .leaf true false none)), (1001, (.cells 157 5 [(.int .i64 (.ofNat 2)), (.int .i64 (.ofNat 1)), (.int .i64 (.ofNat 0)), (.sl 1003 0 2 2 true), (.int .i32 (.ofNat 0))] .leaf true false none)), (1002, (.cells 3 1 [(.int .i64 (.ofNat 1))] .leaf true false none)), (1003, (.cells 3 2 [(.int .i64 (.ofNat 0)), (.int .i64 (.ofNat 0))] .leaf true false none))]
  n0 := 1004
  v := (.tup [.nils, .nils, (.bool false)])
  news := []
  hi := 1124

def ent83 : Ent where
  k := 214
  args := [(.agg [(.int .i64 (.ofNat 1)), (.sl 1000 0 1 1 true)]), (.int .i64 (.ofNat 0)), (.int .i64 (.ofNat 0)), (.int .i64 (.ofNat 35))]
  need := [(1000, (.cells 140 6 [.nils, (.sl 1001 0 1 1 true), (.int .i64 (.ofNat 4)), (.sl 1002 0 1 1 true), .nils, (.int .i32 (.ofNat 0))] .leaf true false none)), (1001, (.cells 157 5 [(.int .i64 (.ofNat 2)), (.int .i64 (.ofNat 1)), (.int .i64 (.ofNat 0)), (.sl 1003 0 2 2 true), (.int .i32 (.ofNat 0))] .leaf true false none)), (1002, (.cells 3 1 [(.int .i64 (.ofNat 1))] .leaf true false none)), (1003, (.cells 3 2 [(.int .i64 (.ofNat 0)), (.int .i64 (.ofNat 0))] .leaf true false none))]
  n0 := 1004
  v := (.tup [.nils, .nils, (.bool false)])
  news := []
  hi := 1124

def ent84 : Ent where
  k := 214
  args := [(.agg [(.int .i64 (.ofNat 1)), (.sl 1000 0 1 1 true)]), (.int .i64 (.ofNat 0)), (.int .i64 (.ofNat 0)), (.int .i64 (.ofNat 36))]
  need := [(1000, (.cells 140 6 [.nils, (.sl 1001 0 1 1 true), (.int .i64 (.ofNat 4)), (.sl 1002 0 1 1 true), .nils, (.int .i32 (.ofNat 0))] .leaf true false none)), (1001, (.cells 157 5 [(.int .i64 (.ofNat 2)), (.int .i64 (.ofNat 1)), (.int .i64 (.ofNat 0)), (.sl 1003 0 2 2 true), (.int .i32 (.ofNat 0))] .leaf true false none)), (1002, (.cells 3 1 [(.int .i64 (.ofNat 1))] .leaf true false none)), (1003, (.cells 3 2 [(.int .i64 (.ofNat 0)), (.int .i64 (.ofNat 0))] .leaf true false none))]
  n0 := 1004
  v := (.tup [.nils, .nils, (.bool false)])
  news := []
  hi := 1124

def ent85 : Ent where
  k := 214
  args := [(.agg [(.int .i64 (.ofNat 1)), (.sl 1000 0 1 1 true)]), (.int .i64 (.ofNat 0)), (.int .i64 (.ofNat 0)), (.int .i64 (.ofNat 37))]
  need := [(1000, (.cells 140 6 [.nils, (.sl 1001 0 1 1 true), (.int .i64 (.ofNat 4)), (.sl 1002 0 1 1 true), .nils, (.int .i32 (.ofNat 0))] .leaf true false none)), (1001, (.cells 157 5 [(.int .i64 (.ofNat 2)), (.int .i64 (.ofNat 1)), (.int .i64 (.ofNat 0)), (.sl 1003 0 2 2 true), (.int .i32 (.ofNat 0))] .leaf true false none)), (1002, (.cells 3 1 [(.int .i64 (.ofNat 1))] .leaf true false none)), (1003, (.cells 3 2 [(.int .i64 (.ofNat 0)), (.int .i64 (.ofNat 0))] .leaf true false none))]
  n0 := 1004
  v := (.tup [.nils, .nils, (.bool false)])
  news := []
  hi := 1124

def ent86 : Ent where
  k := 301
  args := [(.agg [(.int .i64 (.ofNat 1)), (.sl 1000 0 1 1 true)]), (.int .i64 (.ofNat 0)), (.int .i64 (.ofNat 0)), (.int .i64 (.ofNat 2))]
  need := [(1000, (.cells 140 6 [.nils, (.sl 1001 0 1 1 true), (.int .i64 (.ofNat 4)), (.sl 1002 0 1 1 true), .nils, (.int .i32 (.ofNat 0))] .leaf true false none)), (1001, (.cells 157 5 [(.int .i64 (.ofNat 2)), (.int .i64 (.ofNat 1)), (.int .i64 (.ofNat 0)), (.sl 1003 0 2 2 true), (.int .i32 (.ofNat 0))] .leaf true false none)), (1002, (.cells 3 1 [(.int .i64 (.ofNat 1))] .leaf true false none)), (1003, (.cells 3 2 [(.int .i64 (.ofNat 0)), (.int .i64 (.ofNat 0))] .leaf true false none))]
  n0 := 1004
  v := (.tup [(.agg [(.int .i64 (.ofNat 1)), (.sl 1000 0 1 1 true), (.int .i64 (.ofNat 2)), (.int .i64 (.ofNat 1)), (.int .i64 (.ofNat 0)), (.sl 1003 0 2 2 true), (.int .i32 (.ofNat 0)), (.int .i64 (.ofNat 0)), .nils, .nils, (.int .i32 (.ofNat 0)), (.bool false), (.int .i64 (.ofNat 2))]), (.bool true)])
  news := []
  hi := 1007

def ent87 : Ent where
  k := 451
  args := [(.agg [(.int .i64 (.ofNat 1)), (.sl 1000 0 1 1 true), (.int .i64 (.ofNat 2)), (.int .i64 (.ofNat 1)), (.int .i64 (.ofNat 0)), (.sl 1001 0 2 2 true), (.int .i32 (.ofNat 0)), (.int .i64 (.ofNat 0)), .nils, .nils, (.int .i32 (.ofNat 0)), (.bool false), (.int .i64 (.ofNat 2))])]
  need := [(1000, (.cells 140 6 [.nils, (.sl 1002 0 1 1 true), (.int .i64 (.ofNat 4)), (.sl 1003 0 1 1 true), .nils, (.int .i32 (.ofNat 0))] .leaf true false none)), (1001, (.cells 3 2 [(.int .i64 (.ofNat 0)), (.int .i64 (.ofNat 0))] .leaf true false none)), (1002, (.cells 157 5 [(.int .i64 (.ofNat 2)), (.int .i64 (.ofNat 1)), (.int .i64 (.ofNat 0)), (.sl 1001 0 2 2 true), (.int .i32 (.ofNat 0))] .leaf true false none)), (1003, (.cells 3 1 [(.int .i64 (.ofNat 1))] .leaf true false none))]
  n0 := 1004
  v := (.map 1007)
  news := [(1004, (.cells 437 13 [(.int .i64 (.ofNat 1)), (.sl 1000 0 1 1 true), (.int .i64 (.ofNat 2)), (.int .i64 (.ofNat 1)), (.int .i64 (.ofNat 0)), (.sl 1001 0 2 2 true), (.int .i32 (.ofNat 0)), (.int .i64 (.ofNat 0)), .nils, .nils, (.int .i32 (.ofNat 0)), (.bool false), (.int .i64 (.ofNat 2))] .leaf false false none)), (1005, (.cells 157 5 [(.int .i64 (.ofNat 0)), (.int .i64 (.ofNat 0)), (.int .i64 (.ofNat 0)), .nils, (.int .i32 (.ofNat 0))] (.node (.node (.node .leaf (some (.sl 1001 0 2 2 true)) .leaf) (some (.int .i64 (.ofNat 1))) .leaf) (some (.int .i64 (.ofNat 2))) (.node (.node .leaf (some (.int .i32 (.ofNat 0))) .leaf) (some (.int .i64 (.ofNat 0))) .leaf)) false false none)), (1006, (.cells 588 1 [.nilf] (.node .leaf (some (.fn 578 [] [])) .leaf) false false none)), (1007, (.map [⟨(.int .i64 (.ofNat 1)), (.fn 578 [] []), 0⟩, ⟨(.int .i64 (.ofNat 2)), (.fn 578 [] []), 1⟩, ⟨(.int .i64 (.ofNat 3)), (.fn 583 [] [(.ptr 1010 0), (.ptr 1005 0)]), 2⟩, ⟨(.int .i64 (.ofNat 4)), (.fn 578 [] []), 3⟩, ⟨(.int .i64 (.ofNat 5)), (.fn 578 [] []), 4⟩, ⟨(.int .i64 (.ofNat 6)), (.fn 578 [] []), 5⟩, ⟨(.int .i64 (.ofNat 7)), (.fn 578 [] []), 6⟩, ⟨(.int .i64 (.ofNat 8)), (.fn 578 [] []), 7⟩, ⟨(.int .i64 (.ofNat 9)), (.fn 578 [] []), 8⟩, ⟨(.int .i64 (.ofNat 10)), (.fn 578 [] []), 9⟩, ⟨(.int .i64 (.ofNat 11)), (.fn 578 [] []), 10⟩, ⟨(.int .i64 (.ofNat 12)), (.fn 578 [] []), 11⟩, ⟨(.int .i64 (.ofNat 13)), (.fn 578 [] []), 12⟩, ⟨(.int .i64 (.ofNat 14)), (.fn 578 [] []), 13⟩, ⟨(.int .i64 (.ofNat 15)), (.fn 578 [] []), 14⟩, ⟨(.int .i64 (.ofNat 16)), (.fn 585 [] [(.ptr 1004 0), (.ptr 1005 0), (.ptr 1025 0), (.ptr 1026 0), (.ptr 1024 0), (.ptr 1027 0)]), 15⟩, ⟨(.int .i64 (.ofNat 17)), (.fn 578 [] []), 16⟩, ⟨(.int .i64 (.ofNat 18)), (.fn 578 [] []), 17⟩, ⟨(.int .i64 (.ofNat 19)), (.fn 578 [] []), 18⟩, ⟨(.int .i64 (.ofNat 20)), (.fn 578 [] []), 19⟩, ⟨(.int .i64 (.ofNat 21)), (.fn 578 [] []), 20⟩, ⟨(.int .i64 (.ofNat 22)), (.fn 587 [] [(.ptr 1004 0), (.ptr 1005 0), (.ptr 1006 0)]), 21⟩, ⟨(.int .i64 (.ofNat 23)), (.fn 578 [] []), 22⟩, ⟨(.int .i64 (.ofNat 24)), (.fn 578 [] []), 23⟩, ⟨(.int .i64 (.ofNat 25)), (.fn 578 [] []), 24⟩, ⟨(.int .i64 (.ofNat 26)), (.fn 578 [] []), 25⟩, ⟨(.int .i64 (.ofNat 27)), (.fn 578 [] []), 26⟩, ⟨(.int .i64 (.ofNat 28)), (.fn 578 [] []), 27⟩, ⟨(.int .i64 (.ofNat 29)), (.fn 578 [] []), 28⟩, ⟨(.int .i64 (.ofNat 30)), (.fn 578 [] []), 29⟩, ⟨(.int .i64 (.ofNat 31)), (.fn 578 [] []), 30⟩, ⟨(.int .i64 (.ofNat 32)), (.fn 578 [] []), 31⟩] 32)), (1010, (.cells 3 1 [(.int .i64 (.ofNat 0))] (.node .leaf (some (.int .i64 (.ofNat 2))) .leaf) false false none)), (1024, (.cells 3 1 [(.int .i64 (.ofNat 18))] .leaf false false none)), (1025, (.cells 3 1 [(.int .i64 (.negSucc 127))] .leaf false false none)), (1026, (.cells 3 1 [(.int .i64 (.ofNat 127))] .leaf false false none)), (1027, (.cells 3 1 [(.int .i64 (.ofNat 1))] .leaf false false none))]
  hi := 1063

def ent88 : Ent where
  k := 179
  args := [(.agg [(.int .i64 (.ofNat 1)), (.sl 1000 0 1 1 true)]), (.int .i64 (.ofNat 0)), (.int .i64 (.ofNat 0)), (.int .i64 (.ofNat 3)), (.int .i64 (.ofNat 2))]
  need := [(1000, (.cells 140 6 [.nils, (.sl 1001 0 1 1 true), (.int .i64 (.ofNat 4)), (.sl 1002 0 1 1 true), .nils, (.int .i32 (.ofNat 0))] .leaf true false none)), (1001, (.cells 157 5 [(.int .i64 (.ofNat 2)), (.int .i64 (.ofNat 1)), (.int .i64 (.ofNat 0)), (.sl 1003 0 2 2 true), (.int .i32 (.ofNat 0))] .leaf true false none)), (1002, (.cells 3 1 [(.int .i64 (.ofNat 1))] .leaf true false none)), (1003, (.cells 3 2 [(.int .i64 (.ofNat 0)), (.int .i64 (.ofNat 0))] .leaf true false none))]
  n0 := 1004
  v := (.tup [(.sl 1129 0 1 1 false), (.agg [(.int .i64 (.ofNat 0)), (.int .i64 (.ofNat 0)), (.int .i64 (.ofNat 0)), .nils, (.int .i32 (.ofNat 0))]), (.bool true)])
  news := [(1129, (.cells 183 8 [(.int .i64 (.ofNat 5)), (.int .i64 (.ofNat 1)), (.int .i64 (.ofNat 0)), (.int .i64 (.ofNat 0)), (.int .i64 (.ofNat 0)), (.int .i64 (.ofNat 0)), (.int .i32 (.ofNat 0)), .nils] .leaf false false none))]
  hi := 1131

def ent89 : Ent where
  k := 301
  args := [(.agg [(.int .i64 (.ofNat 1)), (.sl 1000 0 1 1 true)]), (.int .i64 (.ofNat 0)), (.int .i64 (.ofNat 1)), (.int .i64 (.ofNat 2))]
  need := [(1000, (.cells 140 6 [.nils, (.sl 1001 0 1 1 true), (.int .i64 (.ofNat 4)), (.sl 1002 0 1 1 true), .nils, (.int .i32 (.ofNat 0))] .leaf true false none)), (1001, (.cells 157 5 [(.int .i64 (.ofNat 2)), (.int .i64 (.ofNat 1)), (.int .i64 (.ofNat 0)), (.sl 1003 0 2 2 true), (.int .i32 (.ofNat 0))] .leaf true false none)), (1002, (.cells 3 1 [(.int .i64 (.ofNat 1))] .leaf true false none)), (1003, (.cells 3 2 [(.int .i64 (.ofNat 0)), (.int .i64 (.ofNat 0))] .leaf true false none))]
  n0 := 1004
  v := (.tup [(.agg [(.int .i64 (.ofNat 1)), (.sl 1000 0 1 1 true), (.int .i64 (.ofNat 0)), (.int .i64 (.ofNat 0)), (.int .i64 (.ofNat 0)), .nils, (.int .i32 (.ofNat 0)), (.int .i64 (.ofNat 4)), (.sl 1002 0 1 1 true), .nils, (.int .i32 (.ofNat 0)), (.bool true), (.int .i64 (.ofNat 2))]), (.bool true)])
  news := []
  hi := 1007

def ent90 : Ent where
  k := 179
  args := [(.agg [(.int .i64 (.ofNat 1)), (.sl 1000 0 1 1 true)]), (.int .i64 (.ofNat 0)), (.int .i64 (.ofNat 1)), (.int .i64 (.ofNat 0)), (.int .i64 (.ofNat 2))]
  need := [(1000, (.cells 140 6 [.nils, (.sl 1001 0 1 1 true), (.int .i64 (.ofNat 4)), (.sl 1002 0 1 1 true), .nils, (.int .i32 (.ofNat 0))] .leaf true false none)), (1001, (.cells 157 5 [(.int .i64 (.ofNat 2)), (.int .i64 (.ofNat 1)), (.int .i64 (.ofNat 0)), (.sl 1003 0 2 2 true), (.int .i32 (.ofNat 0))] .leaf true false none)), (1002, (.cells 3 1 [(.int .i64 (.ofNat 1))] .leaf true false none)), (1003, (.cells 3 2 [(.int .i64 (.ofNat 0)), (.int .i64 (.ofNat 0))] .leaf true false none))]
  n0 := 1004
  v := (.tup [.nils, (.agg [(.int .i64 (.ofNat 7)), (.int .i64 (.ofNat 1)), (.int .i64 (.ofNat 0)), .nils, (.int .i32 (.ofNat 0))]), (.bool true)])
  news := []
  hi := 1072

def ent91 : Ent where
  k := 82
  args := [(.agg [(.int .i64 (.ofNat 1)), (.sl 1000 0 1 1 true)]), (.sl 1001 0 37 37 true)]
  need := [asciiObj, (1000, (.cells 140 6 [.nils, (.sl 1002 0 1 1 true), (.int .i64 (.ofNat 4)), (.sl 1003 0 1 1 true), .nils, (.int .i32 (.ofNat 0))] .leaf true false none)), (1001, (.cells 69 74 [(.int .i64 (.ofNat 1)), (.int .i64 (.ofNat 1)), (.int .i64 (.ofNat 2)), (.int .i64 (.ofNat 2)), (.int .i64 (.ofNat 3)), (.int .i64 (.ofNat 1)), (.int .i64 (.ofNat 4)), (.int .i64 (.ofNat 1)), (.int .i64 (.ofNat 5)), (.int .i64 (.ofNat 3)), (.int .i64 (.ofNat 6)), (.int .i64 (.ofNat 1)), (.int .i64 (.ofNat 7)), (.int .i64 (.ofNat 1)), (.int .i64 (.ofNat 8)), (.int .i64 (.ofNat 1)), (.int .i64 (.ofNat 9)), (.int .i64 (.ofNat 1)), (.int .i64 (.ofNat 10)), (.int .i64 (.ofNat 1)), (.int .i64 (.ofNat 11)), (.int .i64 (.ofNat 1)), (.int .i64 (.ofNat 12)), (.int .i64 (.ofNat 1)), (.int .i64 (.ofNat 13)), (.int .i64 (.ofNat 1)), (.int .i64 (.ofNat 14)), (.int .i64 (.ofNat 1)), (.int .i64 (.ofNat 15)), (.int .i64 (.ofNat 12)), (.int .i64 (.ofNat 16)), (.int .i64 (.ofNat 1)), (.int .i64 (.ofNat 17)), (.int .i64 (.ofNat 1)), (.int .i64 (.ofNat 18)), (.int .i64 (.ofNat 1)), (.int .i64 (.ofNat 19)), (.int .i64 (.ofNat 1)), (.int .i64 (.ofNat 20)), (.int .i64 (.ofNat 1)), (.int .i64 (.ofNat 21)), (.int .i64 (.ofNat 1)), (.int .i64 (.ofNat 22)), (.int .i64 (.ofNat 3)), (.int .i64 (.ofNat 23)), (.int .i64 (.ofNat 2)), (.int .i64 (.ofNat 24)), (.int .i64 (.ofNat 2)), (.int .i64 (.ofNat 25)), (.int .i64 (.ofNat 2)), (.int .i64 (.ofNat 26)), (.int .i64 (.ofNat 4)), (.int .i64 (.ofNat 27)), (.int .i64 (.ofNat 1)), (.int .i64 (.ofNat 28)), (.int .i64 (.ofNat 1)), (.int .i64 (.ofNat 29)), (.int .i64 (.ofNat 1)), (.int .i64 (.ofNat 30)), (.int .i64 (.ofNat 3)), (.int .i64 (.ofNat 31)), (.int .i64 (.ofNat 6)), (.int .i64 (.ofNat 32)), (.int .i64 (.ofNat 4)), (.int .i64 (.ofNat 33)), (.int .i64 (.ofNat 1)), (.int .i64 (.ofNat 34)), (.int .i64 (.ofNat 1)), (.int .i64 (.ofNat 35)), (.int .i64 (.ofNat 1)), (.int .i64 (.ofNat 36)), (.int .i64 (.ofNat 1)), (.int .i64 (.ofNat 37)), (.int .i64 (.ofNat 2))] .leaf true false none)), (1002, (.cells 157 5 [(.int .i64 (.ofNat 2)), (.int .i64 (.ofNat 1)), (.int .i64 (.ofNat 0)), (.sl 1004 0 2 2 true), (.int .i32 (.ofNat 0))] .leaf true false none)), (1003, (.cells 3 1 [(.int .i64 (.ofNat 1))] .leaf true false none)), (1004, (.cells 3 2 [(.int .i64 (.ofNat 0)), (.int .i64 (.ofNat 0))] .leaf true false none))]
  n0 := 1005
  v := (.tup [(.agg [(.int .i64 (.ofNat 1)), (.sl 6209 0 1 1 true)]), (.int .i64 (.ofNat 1)), (.int .i64 (.ofNat 0))])
  news := [(6138, (.cells 183 8 [(.int .i64 (.ofNat 5)), (.int .i64 (.ofNat 1)), (.int .i64 (.ofNat 0)), (.int .i64 (.ofNat 0)), (.int .i64 (.ofNat 0)), (.int .i64 (.ofNat 0)), (.int .i32 (.ofNat 0)), .nils] .leaf true false none)), (6209, (.cells 278 7 [.nils, (.sl 6138 0 1 1 true), (.int .i64 (.ofNat 7)), (.int .i64 (.ofNat 1)), (.int .i64 (.ofNat 0)), .nils, (.int .i32 (.ofNat 0))] .leaf true false none))]
  hi := 6210

def ent92 : Ent where
  k := 166
  args := [(.agg [(.int .i64 (.ofNat 1)), (.sl 1000 0 1 1 true)]), (.int .i64 (.ofNat 8)), (.bool false)]
  need := [(1000, (.cells 278 7 [.nils, (.sl 1001 0 1 1 true), (.int .i64 (.ofNat 7)), (.int .i64 (.ofNat 1)), (.int .i64 (.ofNat 0)), .nils, (.int .i32 (.ofNat 0))] .leaf true false none)), (1001, (.cells 183 8 [(.int .i64 (.ofNat 5)), (.int .i64 (.ofNat 1)), (.int .i64 (.ofNat 0)), (.int .i64 (.ofNat 0)), (.int .i64 (.ofNat 0)), (.int .i64 (.ofNat 0)), (.int .i32 (.ofNat 0)), .nils] .leaf true false none))]
  n0 := 1002
  v := (.tup [(.agg [(.int .i64 (.ofNat 1)), (.int .i64 (.ofNat 8)), (.int .i64 (.ofNat 0)), (.sl 1396 0 1 1 true)]), (.int .i64 (.ofNat 0))])
  news := [(1393, (.cells 185 27 [(.int .i64 (.ofNat 1)), (.int .i64 (.ofNat 2)), (.int .i64 (.ofNat 0)), (.int .i64 (.ofNat 0)), (.int .i64 (.ofNat 0)), (.int .i64 (.ofNat 0)), (.int .i32 (.ofNat 0)), .nils, (.int .i64 (.negSucc 0)), (.int .i64 (.ofNat 5)), (.int .i64 (.ofNat 2)), (.int .i64 (.ofNat 0)), (.int .i64 (.ofNat 2)), (.int .i64 (.ofNat 2)), (.int .i64 (.ofNat 0)), (.int .i32 (.ofNat 0)), .nils, (.int .i64 (.ofNat 0)), (.int .i64 (.ofNat 1)), (.int .i64 (.ofNat 0)), (.int .i64 (.ofNat 0)), (.int .i64 (.ofNat 2)), (.int .i64 (.ofNat 0)), (.int .i64 (.ofNat 0)), (.int .i32 (.ofNat 0)), .nils, (.int .i64 (.negSucc 0))] .leaf true false (some 1382))), (1396, (.cells 181 6 [(.sl 1393 0 3 3 true), (.int .i64 (.ofNat 7)), (.int .i64 (.ofNat 0)), (.int .i64 (.ofNat 0)), .nils, (.int .i32 (.ofNat 0))] .leaf true false none))]
  hi := 1465

def ent93 : Ent where
  k := 167
  args := [(.agg [(.int .i64 (.ofNat 1)), (.int .i64 (.ofNat 8)), (.int .i64 (.ofNat 0)), (.sl 1000 0 1 1 true)]), (.agg [(.int .i64 (.ofNat 3)), (.int .i64 (.ofNat 9)), (.int .i64 (.ofNat 2)), (.int .i64 (.ofNat 1))])]
  need := [(1000, (.cells 181 6 [(.sl 1001 0 3 3 true), (.int .i64 (.ofNat 7)), (.int .i64 (.ofNat 0)), (.int .i64 (.ofNat 0)), .nils, (.int .i32 (.ofNat 0))] .leaf true false none)), (1001, (.cells 185 27 [(.int .i64 (.ofNat 1)), (.int .i64 (.ofNat 2)), (.int .i64 (.ofNat 0)), (.int .i64 (.ofNat 0)), (.int .i64 (.ofNat 0)), (.int .i64 (.ofNat 0)), (.int .i32 (.ofNat 0)), .nils, (.int .i64 (.negSucc 0)), (.int .i64 (.ofNat 5)), (.int .i64 (.ofNat 2)), (.int .i64 (.ofNat 0)), (.int .i64 (.ofNat 2)), (.int .i64 (.ofNat 2)), (.int .i64 (.ofNat 0)), (.int .i32 (.ofNat 0)), .nils, (.int .i64 (.ofNat 0)), (.int .i64 (.ofNat 1)), (.int .i64 (.ofNat 0)), (.int .i64 (.ofNat 0)), (.int .i64 (.ofNat 2)), (.int .i64 (.ofNat 0)), (.int .i64 (.ofNat 0)), (.int .i32 (.ofNat 0)), .nils, (.int .i64 (.negSucc 0))] .leaf true false none))]
  n0 := 1002
  v := (.tup [(.agg [(.int .i64 (.ofNat 1)), (.int .i64 (.ofNat 8)), (.int .i64 (.ofNat 0)), (.sl 1343 0 1 1 true)]), (.int .i64 (.ofNat 0))])
  news := [(1211, (.cells 185 27 [(.int .i64 (.ofNat 1)), (.int .i64 (.ofNat 2)), (.int .i64 (.ofNat 0)), (.int .i64 (.ofNat 0)), (.int .i64 (.ofNat 0)), (.int .i64 (.ofNat 0)), (.int .i32 (.ofNat 0)), .nils, (.int .i64 (.negSucc 0)), (.int .i64 (.ofNat 5)), (.int .i64 (.ofNat 2)), (.int .i64 (.ofNat 0)), (.int .i64 (.ofNat 2)), (.int .i64 (.ofNat 2)), (.int .i64 (.ofNat 0)), (.int .i32 (.ofNat 0)), .nils, (.int .i64 (.ofNat 0)), (.int .i64 (.ofNat 1)), (.int .i64 (.ofNat 0)), (.int .i64 (.ofNat 0)), (.int .i64 (.ofNat 2)), (.int .i64 (.ofNat 0)), (.int .i64 (.ofNat 0)), (.int .i32 (.ofNat 0)), .nils, (.int .i64 (.negSucc 0))] .leaf true false (some 1204))), (1343, (.cells 181 6 [(.sl 1211 0 3 3 true), (.int .i64 (.ofNat 7)), (.int .i64 (.ofNat 0)), (.int .i64 (.ofNat 0)), .nils, (.int .i32 (.ofNat 0))] .leaf true false none))]
  hi := 1344

def ent94 : Ent where
  k := 135
  args := [(.str [109, 111, 118])]
  need := [asciiObj]
  n0 := 1000
  v := (.sl 1000 0 1 1 false)
  news := [(1000, (.cells 9 1 [(.str [])] (.node .leaf (some (.str [109, 111, 118])) .leaf) false false none))]
  hi := 1001

def ent95 : Ent where
  k := 135
  args := [(.str [115, 119, 97, 112])]
  need := [asciiObj]
  n0 := 1000
  v := (.sl 1000 0 1 1 false)
  news := [(1000, (.cells 9 1 [(.str [])] (.node .leaf (some (.str [115, 119, 97, 112])) .leaf) false false none))]
  hi := 1001

def ent96 : Ent where
  k := 135
  args := [(.str [108, 105])]
  need := [asciiObj]
  n0 := 1000
  v := (.sl 1000 0 1 1 false)
  news := [(1000, (.cells 9 1 [(.str [])] (.node .leaf (some (.str [108, 105])) .leaf) false false none))]
  hi := 1001

def ent97 : Ent where
  k := 135
  args := [(.str [108, 105, 119])]
  need := [asciiObj]
  n0 := 1000
  v := (.sl 1000 0 1 1 false)
  news := [(1000, (.cells 9 1 [(.str [])] (.node .leaf (some (.str [108, 105, 119])) .leaf) false false none))]
  hi := 1001

def ent98 : Ent where
  k := 135
  args := [(.str [97, 100, 100, 32, 115, 117, 98, 32, 109, 117, 108, 32, 97, 110, 100, 32, 111, 114, 32, 120, 111, 114, 32, 115, 104, 108, 32, 115, 104, 114, 32, 115, 97, 114, 32, 101, 113, 32, 108, 116, 32, 108, 116, 117, 32, 100, 105, 118])]
  need := [asciiObj]
  n0 := 1000
  v := (.sl 1000 0 13 13 false)
  news := [(1000, (.cells 9 13 [(.str [])] (.node (.node (.node (.node .leaf (some (.str [115, 104, 114])) .leaf) (some (.str [97, 110, 100])) (.node .leaf (some (.str [108, 116, 117])) .leaf)) (some (.str [115, 117, 98])) (.node (.node .leaf (some (.str [101, 113])) .leaf) (some (.str [120, 111, 114])) .leaf)) (some (.str [97, 100, 100])) (.node (.node (.node .leaf (some (.str [115, 97, 114])) .leaf) (some (.str [111, 114])) (.node .leaf (some (.str [100, 105, 118])) .leaf)) (some (.str [109, 117, 108])) (.node (.node .leaf (some (.str [108, 116])) .leaf) (some (.str [115, 104, 108])) .leaf))) false false none))]
  hi := 1001

def ent99 : Ent where
  k := 135
  args := [(.str [97, 100, 100, 105, 32, 97, 110, 100, 105])]
  need := [asciiObj]
  n0 := 1000
  v := (.sl 1000 0 2 2 false)
  news := [(1000, (.cells 9 2 [(.str [])] (.node (.node .leaf (some (.str [97, 110, 100, 105])) .leaf) (some (.str [97, 100, 100, 105])) .leaf) false false none))]
  hi := 1001

def ent100 : Ent where
  k := 135
  args := [(.str [115, 104, 108, 105, 32, 115, 104, 114, 105, 32, 115, 97, 114, 105])]
  need := [asciiObj]
  n0 := 1000
  v := (.sl 1000 0 3 3 false)
  news := [(1000, (.cells 9 3 [(.str [])] (.node (.node .leaf (some (.str [115, 104, 114, 105])) .leaf) (some (.str [115, 104, 108, 105])) (.node .leaf (some (.str [115, 97, 114, 105])) .leaf)) false false none))]
  hi := 1001

def ent101 : Ent where
  k := 135
  args := [(.str [109, 97, 100, 100])]
  need := [asciiObj]
  n0 := 1000
  v := (.sl 1000 0 1 1 false)
  news := [(1000, (.cells 9 1 [(.str [])] (.node .leaf (some (.str [109, 97, 100, 100])) .leaf) false false none))]
  hi := 1001

def ent102 : Ent where
  k := 135
  args := [(.str [108, 100])]
  need := [asciiObj]
  n0 := 1000
  v := (.sl 1000 0 1 1 false)
  news := [(1000, (.cells 9 1 [(.str [])] (.node .leaf (some (.str [108, 100])) .leaf) false false none))]
  hi := 1001

def ent103 : Ent where
  k := 135
  args := [(.str [108, 100, 120])]
  need := [asciiObj]
  n0 := 1000
  v := (.sl 1000 0 1 1 false)
  news := [(1000, (.cells 9 1 [(.str [])] (.node .leaf (some (.str [108, 100, 120])) .leaf) false false none))]
  hi := 1001

def ent104 : Ent where
  k := 135
  args := [(.str [115, 116])]
  need := [asciiObj]
  n0 := 1000
  v := (.sl 1000 0 1 1 false)
  news := [(1000, (.cells 9 1 [(.str [])] (.node .leaf (some (.str [115, 116])) .leaf) false false none))]
  hi := 1001

def ent105 : Ent where
  k := 135
  args := [(.str [115, 116, 120])]
  need := [asciiObj]
  n0 := 1000
  v := (.sl 1000 0 1 1 false)
  news := [(1000, (.cells 9 1 [(.str [])] (.node .leaf (some (.str [115, 116, 120])) .leaf) false false none))]
  hi := 1001

def ent106 : Ent where
  k := 135
  args := [(.str [99, 97, 108, 108])]
  need := [asciiObj]
  n0 := 1000
  v := (.sl 1000 0 1 1 false)
  news := [(1000, (.cells 9 1 [(.str [])] (.node .leaf (some (.str [99, 97, 108, 108])) .leaf) false false none))]
  hi := 1001

def ent107 : Ent where
  k := 135
  args := [(.str [109, 117, 108, 119])]
  need := [asciiObj]
  n0 := 1000
  v := (.sl 1000 0 1 1 false)
  news := [(1000, (.cells 9 1 [(.str [])] (.node .leaf (some (.str [109, 117, 108, 119])) .leaf) false false none))]
  hi := 1001

def ent108 : Ent where
  k := 135
  args := [(.str [115, 108, 100])]
  need := [asciiObj]
  n0 := 1000
  v := (.sl 1000 0 1 1 false)
  news := [(1000, (.cells 9 1 [(.str [])] (.node .leaf (some (.str [115, 108, 100])) .leaf) false false none))]
  hi := 1001

def ent109 : Ent where
  k := 135
  args := [(.str [115, 115, 116])]
  need := [asciiObj]
  n0 := 1000
  v := (.sl 1000 0 1 1 false)
  news := [(1000, (.cells 9 1 [(.str [])] (.node .leaf (some (.str [115, 115, 116])) .leaf) false false none))]
  hi := 1001

def ent110 : Ent where
  k := 135
  args := [(.str [106])]
  need := [asciiObj]
  n0 := 1000
  v := (.sl 1000 0 1 1 false)
  news := [(1000, (.cells 9 1 [(.str [])] (.node .leaf (some (.str [106])) .leaf) false false none))]
  hi := 1001

def ent111 : Ent where
  k := 135
  args := [(.str [98, 110, 122, 32, 98, 122])]
  need := [asciiObj]
  n0 := 1000
  v := (.sl 1000 0 2 2 false)
  news := [(1000, (.cells 9 2 [(.str [])] (.node (.node .leaf (some (.str [98, 122])) .leaf) (some (.str [98, 110, 122])) .leaf) false false none))]
  hi := 1001

def ent112 : Ent where
  k := 135
  args := [(.str [98, 101, 113, 32, 98, 110, 101, 32, 98, 108, 116, 32, 98, 103, 101, 32, 98, 108, 116, 117, 32, 98, 103, 101, 117])]
  need := [asciiObj]
  n0 := 1000
  v := (.sl 1000 0 6 6 false)
  news := [(1000, (.cells 9 6 [(.str [])] (.node (.node (.node .leaf (some (.str [98, 103, 101])) .leaf) (some (.str [98, 110, 101])) (.node .leaf (some (.str [98, 103, 101, 117])) .leaf)) (some (.str [98, 101, 113])) (.node (.node .leaf (some (.str [98, 108, 116, 117])) .leaf) (some (.str [98, 108, 116])) .leaf)) false false none))]
  hi := 1001

def ent113 : Ent where
  k := 135
  args := [(.str [106, 116])]
  need := [asciiObj]
  n0 := 1000
  v := (.sl 1000 0 1 1 false)
  news := [(1000, (.cells 9 1 [(.str [])] (.node .leaf (some (.str [106, 116])) .leaf) false false none))]
  hi := 1001

def ent114 : Ent where
  k := 135
  args := [(.str [114, 101, 116])]
  need := [asciiObj]
  n0 := 1000
  v := (.sl 1000 0 1 1 false)
  news := [(1000, (.cells 9 1 [(.str [])] (.node .leaf (some (.str [114, 101, 116])) .leaf) false false none))]
  hi := 1001

def ent115 : Ent where
  k := 135
  args := [(.str [116, 114, 97, 112])]
  need := [asciiObj]
  n0 := 1000
  v := (.sl 1000 0 1 1 false)
  news := [(1000, (.cells 9 1 [(.str [])] (.node .leaf (some (.str [116, 114, 97, 112])) .leaf) false false none))]
  hi := 1001

def ent116 : Ent where
  k := 317
  args := []
  need := [asciiObj]
  n0 := 1000
  v := (.map 1000)
  news := [(1000, (.map [⟨(.int .i64 (.ofNat 1)), (.agg [(.str [109, 111, 118]), (.str [68, 65])]), 0⟩, ⟨(.int .i64 (.ofNat 2)), (.agg [(.str [115, 119, 97, 112]), (.str [65, 66])]), 1⟩, ⟨(.int .i64 (.ofNat 3)), (.agg [(.str [108, 105]), (.str [68, 104])]), 2⟩, ⟨(.int .i64 (.ofNat 4)), (.agg [(.str [108, 105, 119]), (.str [68, 119])]), 3⟩, ⟨(.int .i64 (.ofNat 5)), (.agg [(.str [97, 100, 100]), (.str [68, 65, 66])]), 4⟩, ⟨(.int .i64 (.ofNat 6)), (.agg [(.str [115, 117, 98]), (.str [68, 65, 66])]), 5⟩, ⟨(.int .i64 (.ofNat 7)), (.agg [(.str [109, 117, 108]), (.str [68, 65, 66])]), 6⟩, ⟨(.int .i64 (.ofNat 8)), (.agg [(.str [97, 110, 100]), (.str [68, 65, 66])]), 7⟩, ⟨(.int .i64 (.ofNat 9)), (.agg [(.str [111, 114]), (.str [68, 65, 66])]), 8⟩, ⟨(.int .i64 (.ofNat 10)), (.agg [(.str [120, 111, 114]), (.str [68, 65, 66])]), 9⟩, ⟨(.int .i64 (.ofNat 11)), (.agg [(.str [115, 104, 108]), (.str [68, 65, 66])]), 10⟩, ⟨(.int .i64 (.ofNat 12)), (.agg [(.str [115, 104, 114]), (.str [68, 65, 66])]), 11⟩, ⟨(.int .i64 (.ofNat 13)), (.agg [(.str [115, 97, 114]), (.str [68, 65, 66])]), 12⟩, ⟨(.int .i64 (.ofNat 14)), (.agg [(.str [101, 113]), (.str [68, 65, 66])]), 13⟩, ⟨(.int .i64 (.ofNat 15)), (.agg [(.str [108, 116]), (.str [68, 65, 66])]), 14⟩, ⟨(.int .i64 (.ofNat 16)), (.agg [(.str [108, 116, 117]), (.str [68, 65, 66])]), 15⟩, ⟨(.int .i64 (.ofNat 17)), (.agg [(.str [100, 105, 118]), (.str [68, 65, 66])]), 16⟩, ⟨(.int .i64 (.ofNat 18)), (.agg [(.str [97, 100, 100, 105]), (.str [68, 65, 105])]), 17⟩, ⟨(.int .i64 (.ofNat 19)), (.agg [(.str [97, 110, 100, 105]), (.str [68, 65, 105])]), 18⟩, ⟨(.int .i64 (.ofNat 20)), (.agg [(.str [115, 104, 108, 105]), (.str [68, 65, 115])]), 19⟩, ⟨(.int .i64 (.ofNat 21)), (.agg [(.str [115, 104, 114, 105]), (.str [68, 65, 115])]), 20⟩, ⟨(.int .i64 (.ofNat 22)), (.agg [(.str [115, 97, 114, 105]), (.str [68, 65, 115])]), 21⟩, ⟨(.int .i64 (.ofNat 23)), (.agg [(.str [109, 97, 100, 100]), (.str [68, 65, 66, 67])]), 22⟩, ⟨(.int .i64 (.ofNat 24)), (.agg [(.str [108, 100]), (.str [68, 65, 117])]), 23⟩, ⟨(.int .i64 (.ofNat 25)), (.agg [(.str [108, 100, 120]), (.str [68, 65, 66])]), 24⟩, ⟨(.int .i64 (.ofNat 26)), (.agg [(.str [115, 116]), (.str [65, 66, 117])]), 25⟩, ⟨(.int .i64 (.ofNat 27)), (.agg [(.str [115, 116, 120]), (.str [65, 66, 67])]), 26⟩, ⟨(.int .i64 (.ofNat 28)), (.agg [(.str [99, 97, 108, 108]), (.str [110, 119])]), 27⟩, ⟨(.int .i64 (.ofNat 29)), (.agg [(.str [109, 117, 108, 119]), (.str [65, 66])]), 28⟩, ⟨(.int .i64 (.ofNat 30)), (.agg [(.str [115, 108, 100]), (.str [68, 112])]), 29⟩, ⟨(.int .i64 (.ofNat 31)), (.agg [(.str [115, 115, 116]), (.str [65, 112])]), 30⟩, ⟨(.int .i64 (.ofNat 40)), (.agg [(.str [106]), (.str [98])]), 31⟩, ⟨(.int .i64 (.ofNat 41)), (.agg [(.str [98, 110, 122]), (.str [65, 98])]), 32⟩, ⟨(.int .i64 (.ofNat 42)), (.agg [(.str [98, 122]), (.str [65, 98])]), 33⟩, ⟨(.int .i64 (.ofNat 43)), (.agg [(.str [98, 101, 113]), (.str [65, 66, 98])]), 34⟩, ⟨(.int .i64 (.ofNat 44)), (.agg [(.str [98, 110, 101]), (.str [65, 66, 98])]), 35⟩, ⟨(.int .i64 (.ofNat 45)), (.agg [(.str [98, 108, 116]), (.str [65, 66, 98])]), 36⟩, ⟨(.int .i64 (.ofNat 46)), (.agg [(.str [98, 103, 101]), (.str [65, 66, 98])]), 37⟩, ⟨(.int .i64 (.ofNat 47)), (.agg [(.str [98, 108, 116, 117]), (.str [65, 66, 98])]), 38⟩, ⟨(.int .i64 (.ofNat 48)), (.agg [(.str [98, 103, 101, 117]), (.str [65, 66, 98])]), 39⟩, ⟨(.int .i64 (.ofNat 49)), (.agg [(.str [106, 116]), (.str [65, 116])]), 40⟩, ⟨(.int .i64 (.ofNat 50)), (.agg [(.str [114, 101, 116]), (.str [101])]), 41⟩, ⟨(.int .i64 (.ofNat 51)), (.agg [(.str [116, 114, 97, 112]), (.str [119])]), 42⟩] 43))]
  hi := 1046

def ent117 : Ent where
  k := 86
  args := [(.agg [(.int .i64 (.ofNat 1)), (.int .i64 (.ofNat 8)), (.int .i64 (.ofNat 0)), (.sl 1000 0 1 1 true)])]
  need := [asciiObj, (1000, (.cells 181 6 [(.sl 1001 0 3 3 true), (.int .i64 (.ofNat 7)), (.int .i64 (.ofNat 0)), (.int .i64 (.ofNat 0)), .nils, (.int .i32 (.ofNat 0))] .leaf true false none)), (1001, (.cells 185 27 [(.int .i64 (.ofNat 1)), (.int .i64 (.ofNat 2)), (.int .i64 (.ofNat 0)), (.int .i64 (.ofNat 0)), (.int .i64 (.ofNat 0)), (.int .i64 (.ofNat 0)), (.int .i32 (.ofNat 0)), .nils, (.int .i64 (.negSucc 0)), (.int .i64 (.ofNat 5)), (.int .i64 (.ofNat 2)), (.int .i64 (.ofNat 0)), (.int .i64 (.ofNat 2)), (.int .i64 (.ofNat 2)), (.int .i64 (.ofNat 0)), (.int .i32 (.ofNat 0)), .nils, (.int .i64 (.ofNat 0)), (.int .i64 (.ofNat 1)), (.int .i64 (.ofNat 0)), (.int .i64 (.ofNat 0)), (.int .i64 (.ofNat 2)), (.int .i64 (.ofNat 0)), (.int .i64 (.ofNat 0)), (.int .i32 (.ofNat 0)), .nils, (.int .i64 (.negSucc 0))] .leaf true false none))]
  n0 := 1002
  v := (.tup [(.str [1, 32, 5, 34, 32, 1, 2, 50, 1]), (.sl 1088 0 1 1 true), (.int .i64 (.ofNat 0))])
  news := [(1088, (.cells 3 1 [(.int .i64 (.ofNat 0))] .leaf true false none))]
  hi := 1740

def ent118 : Ent where
  k := 49
  args := [(.agg [(.int .i64 (.ofNat 1)), (.sl 1000 0 1 1 true)]), (.sl 1001 0 37 37 true), (.agg [(.int .i64 (.ofNat 8)), (.bool false), (.bool false), (.bool true), (.int .i64 (.ofNat 3)), (.int .i64 (.ofNat 9)), (.int .i64 (.ofNat 2)), (.int .i64 (.ofNat 1))])]
  need := [asciiObj, (1000, (.cells 140 6 [.nils, .nils, (.int .i64 (.ofNat 0)), .nils, .nils, (.int .i32 (.ofNat 0))] (.node (.node (.node .leaf (some (.sl 1002 0 1 1 true)) .leaf) (some (.sl 1003 0 1 1 true)) (.node .leaf (some (.int .i32 (.ofNat 0))) .leaf)) none (.node (.node .leaf (some .nils) .leaf) (some (.int .i64 (.ofNat 4))) .leaf)) true false none)), (1001, (.cells 69 74 [(.int .i64 (.ofNat 1)), (.int .i64 (.ofNat 1)), (.int .i64 (.ofNat 2)), (.int .i64 (.ofNat 2)), (.int .i64 (.ofNat 3)), (.int .i64 (.ofNat 1)), (.int .i64 (.ofNat 4)), (.int .i64 (.ofNat 1)), (.int .i64 (.ofNat 5)), (.int .i64 (.ofNat 3)), (.int .i64 (.ofNat 6)), (.int .i64 (.ofNat 1)), (.int .i64 (.ofNat 7)), (.int .i64 (.ofNat 1)), (.int .i64 (.ofNat 8)), (.int .i64 (.ofNat 1)), (.int .i64 (.ofNat 9)), (.int .i64 (.ofNat 1)), (.int .i64 (.ofNat 10)), (.int .i64 (.ofNat 1)), (.int .i64 (.ofNat 11)), (.int .i64 (.ofNat 1)), (.int .i64 (.ofNat 12)), (.int .i64 (.ofNat 1)), (.int .i64 (.ofNat 13)), (.int .i64 (.ofNat 1)), (.int .i64 (.ofNat 14)), (.int .i64 (.ofNat 1)), (.int .i64 (.ofNat 15)), (.int .i64 (.ofNat 12)), (.int .i64 (.ofNat 16)), (.int .i64 (.ofNat 1)), (.int .i64 (.ofNat 17)), (.int .i64 (.ofNat 1)), (.int .i64 (.ofNat 18)), (.int .i64 (.ofNat 1)), (.int .i64 (.ofNat 19)), (.int .i64 (.ofNat 1)), (.int .i64 (.ofNat 20)), (.int .i64 (.ofNat 1)), (.int .i64 (.ofNat 21)), (.int .i64 (.ofNat 1)), (.int .i64 (.ofNat 22)), (.int .i64 (.ofNat 3)), (.int .i64 (.ofNat 23)), (.int .i64 (.ofNat 2)), (.int .i64 (.ofNat 24)), (.int .i64 (.ofNat 2)), (.int .i64 (.ofNat 25)), (.int .i64 (.ofNat 2)), (.int .i64 (.ofNat 26)), (.int .i64 (.ofNat 4)), (.int .i64 (.ofNat 27)), (.int .i64 (.ofNat 1)), (.int .i64 (.ofNat 28)), (.int .i64 (.ofNat 1)), (.int .i64 (.ofNat 29)), (.int .i64 (.ofNat 1)), (.int .i64 (.ofNat 30)), (.int .i64 (.ofNat 3)), (.int .i64 (.ofNat 31)), (.int .i64 (.ofNat 6)), (.int .i64 (.ofNat 32)), (.int .i64 (.ofNat 4)), (.int .i64 (.ofNat 33)), (.int .i64 (.ofNat 1)), (.int .i64 (.ofNat 34)), (.int .i64 (.ofNat 1)), (.int .i64 (.ofNat 35)), (.int .i64 (.ofNat 1)), (.int .i64 (.ofNat 36)), (.int .i64 (.ofNat 1)), (.int .i64 (.ofNat 37)), (.int .i64 (.ofNat 2))] .leaf true false none)), (1002, (.cells 3 1 [(.int .i64 (.ofNat 1))] .leaf true false none)), (1003, (.cells 157 5 [(.int .i64 (.ofNat 2)), (.int .i64 (.ofNat 1)), (.int .i64 (.ofNat 0)), (.sl 1004 1 2 2 false), (.int .i32 (.ofNat 0))] .leaf true false none)), (1004, (.cells 3 3 [(.int .i64 (.ofNat 1)), (.int .i64 (.ofNat 0)), (.int .i64 (.ofNat 0))] .leaf true false none))]
  n0 := 1005
  v := (.tup [(.agg [(.int .i64 (.ofNat 1)), (.sl 1105 0 1 1 true), (.int .i64 (.ofNat 1)), (.sl 6312 0 1 1 true), (.int .i64 (.ofNat 1)), (.int .i64 (.ofNat 1)), (.int .i64 (.ofNat 8)), (.int .i64 (.ofNat 0)), (.sl 6707 0 1 1 true), (.int .i64 (.ofNat 1)), (.int .i64 (.ofNat 8)), (.int .i64 (.ofNat 0)), (.sl 7117 0 1 1 true), (.str [1, 32, 5, 34, 32, 1, 2, 50, 1]), (.sl 7204 0 1 1 true)]), (.int .i64 (.ofNat 0))])
  news := [(1099, (.cells 3 2 [(.int .i64 (.ofNat 0)), (.int .i64 (.ofNat 0))] .leaf true false none)), (1101, (.cells 157 5 [(.int .i64 (.ofNat 2)), (.int .i64 (.ofNat 1)), (.int .i64 (.ofNat 0)), (.sl 1099 0 2 2 true), (.int .i32 (.ofNat 0))] .leaf true false none)), (1103, (.cells 3 1 [(.int .i64 (.ofNat 1))] .leaf true false none)), (1105, (.cells 140 6 [.nils, (.sl 1101 0 1 1 true), (.int .i64 (.ofNat 4)), (.sl 1103 0 1 1 true), .nils, (.int .i32 (.ofNat 0))] .leaf true false none)), (6241, (.cells 183 8 [(.int .i64 (.ofNat 5)), (.int .i64 (.ofNat 1)), (.int .i64 (.ofNat 0)), (.int .i64 (.ofNat 0)), (.int .i64 (.ofNat 0)), (.int .i64 (.ofNat 0)), (.int .i32 (.ofNat 0)), .nils] .leaf true false none)), (6312, (.cells 278 7 [.nils, (.sl 6241 0 1 1 true), (.int .i64 (.ofNat 7)), (.int .i64 (.ofNat 1)), (.int .i64 (.ofNat 0)), .nils, (.int .i32 (.ofNat 0))] .leaf true false none)), (6704, (.cells 185 27 [(.int .i64 (.ofNat 1)), (.int .i64 (.ofNat 2)), (.int .i64 (.ofNat 0)), (.int .i64 (.ofNat 0)), (.int .i64 (.ofNat 0)), (.int .i64 (.ofNat 0)), (.int .i32 (.ofNat 0)), .nils, (.int .i64 (.negSucc 0)), (.int .i64 (.ofNat 5)), (.int .i64 (.ofNat 2)), (.int .i64 (.ofNat 0)), (.int .i64 (.ofNat 2)), (.int .i64 (.ofNat 2)), (.int .i64 (.ofNat 0)), (.int .i32 (.ofNat 0)), .nils, (.int .i64 (.ofNat 0)), (.int .i64 (.ofNat 1)), (.int .i64 (.ofNat 0)), (.int .i64 (.ofNat 0)), (.int .i64 (.ofNat 2)), (.int .i64 (.ofNat 0)), (.int .i64 (.ofNat 0)), (.int .i32 (.ofNat 0)), .nils, (.int .i64 (.negSucc 0))] .leaf true false (some 6693))), (6707, (.cells 181 6 [(.sl 6704 0 3 3 true), (.int .i64 (.ofNat 7)), (.int .i64 (.ofNat 0)), (.int .i64 (.ofNat 0)), .nils, (.int .i32 (.ofNat 0))] .leaf true false none)), (6985, (.cells 185 27 [(.int .i64 (.ofNat 1)), (.int .i64 (.ofNat 2)), (.int .i64 (.ofNat 0)), (.int .i64 (.ofNat 0)), (.int .i64 (.ofNat 0)), (.int .i64 (.ofNat 0)), (.int .i32 (.ofNat 0)), .nils, (.int .i64 (.negSucc 0)), (.int .i64 (.ofNat 5)), (.int .i64 (.ofNat 2)), (.int .i64 (.ofNat 0)), (.int .i64 (.ofNat 2)), (.int .i64 (.ofNat 2)), (.int .i64 (.ofNat 0)), (.int .i32 (.ofNat 0)), .nils, (.int .i64 (.ofNat 0)), (.int .i64 (.ofNat 1)), (.int .i64 (.ofNat 0)), (.int .i64 (.ofNat 0)), (.int .i64 (.ofNat 2)), (.int .i64 (.ofNat 0)), (.int .i64 (.ofNat 0)), (.int .i32 (.ofNat 0)), .nils, (.int .i64 (.negSucc 0))] .leaf true false (some 6978))), (7117, (.cells 181 6 [(.sl 6985 0 3 3 true), (.int .i64 (.ofNat 7)), (.int .i64 (.ofNat 0)), (.int .i64 (.ofNat 0)), .nils, (.int .i32 (.ofNat 0))] .leaf true false none)), (7204, (.cells 3 1 [(.int .i64 (.ofNat 0))] .leaf true false none))]
  hi := 7856

def ent119 : Ent where
  k := 212
  args := [(.agg [(.int .i64 (.ofNat 1)), (.sl 1000 0 1 1 true)]), (.sl 1001 0 37 37 true)]
  need := [(1000, (.cells 140 6 [.nils, (.sl 1002 0 1 1 true), (.int .i64 (.ofNat 4)), (.sl 1003 0 1 1 true), .nils, (.int .i32 (.ofNat 0))] .leaf true false none)), (1001, (.cells 69 74 [(.int .i64 (.ofNat 1)), (.int .i64 (.ofNat 1)), (.int .i64 (.ofNat 2)), (.int .i64 (.ofNat 2)), (.int .i64 (.ofNat 3)), (.int .i64 (.ofNat 1)), (.int .i64 (.ofNat 4)), (.int .i64 (.ofNat 1)), (.int .i64 (.ofNat 5)), (.int .i64 (.ofNat 3)), (.int .i64 (.ofNat 6)), (.int .i64 (.ofNat 1)), (.int .i64 (.ofNat 7)), (.int .i64 (.ofNat 1)), (.int .i64 (.ofNat 8)), (.int .i64 (.ofNat 1)), (.int .i64 (.ofNat 9)), (.int .i64 (.ofNat 1)), (.int .i64 (.ofNat 10)), (.int .i64 (.ofNat 1)), (.int .i64 (.ofNat 11)), (.int .i64 (.ofNat 1)), (.int .i64 (.ofNat 12)), (.int .i64 (.ofNat 1)), (.int .i64 (.ofNat 13)), (.int .i64 (.ofNat 1)), (.int .i64 (.ofNat 14)), (.int .i64 (.ofNat 1)), (.int .i64 (.ofNat 15)), (.int .i64 (.ofNat 12)), (.int .i64 (.ofNat 16)), (.int .i64 (.ofNat 1)), (.int .i64 (.ofNat 17)), (.int .i64 (.ofNat 1)), (.int .i64 (.ofNat 18)), (.int .i64 (.ofNat 1)), (.int .i64 (.ofNat 19)), (.int .i64 (.ofNat 1)), (.int .i64 (.ofNat 20)), (.int .i64 (.ofNat 1)), (.int .i64 (.ofNat 21)), (.int .i64 (.ofNat 1)), (.int .i64 (.ofNat 22)), (.int .i64 (.ofNat 3)), (.int .i64 (.ofNat 23)), (.int .i64 (.ofNat 2)), (.int .i64 (.ofNat 24)), (.int .i64 (.ofNat 2)), (.int .i64 (.ofNat 25)), (.int .i64 (.ofNat 2)), (.int .i64 (.ofNat 26)), (.int .i64 (.ofNat 4)), (.int .i64 (.ofNat 27)), (.int .i64 (.ofNat 1)), (.int .i64 (.ofNat 28)), (.int .i64 (.ofNat 1)), (.int .i64 (.ofNat 29)), (.int .i64 (.ofNat 1)), (.int .i64 (.ofNat 30)), (.int .i64 (.ofNat 3)), (.int .i64 (.ofNat 31)), (.int .i64 (.ofNat 6)), (.int .i64 (.ofNat 32)), (.int .i64 (.ofNat 4)), (.int .i64 (.ofNat 33)), (.int .i64 (.ofNat 1)), (.int .i64 (.ofNat 34)), (.int .i64 (.ofNat 1)), (.int .i64 (.ofNat 35)), (.int .i64 (.ofNat 1)), (.int .i64 (.ofNat 36)), (.int .i64 (.ofNat 1)), (.int .i64 (.ofNat 37)), (.int .i64 (.ofNat 2))] .leaf true false none)), (1002, (.cells 157 5 [(.int .i64 (.ofNat 2)), (.int .i64 (.ofNat 1)), (.int .i64 (.ofNat 0)), (.sl 1004 0 2 2 true), (.int .i32 (.ofNat 0))] .leaf true false none)), (1003, (.cells 3 1 [(.int .i64 (.ofNat 1))] .leaf true false none)), (1004, (.cells 3 2 [(.int .i64 (.ofNat 0)), (.int .i64 (.ofNat 0))] .leaf true false none))]
  n0 := 1005
  v := (.ptr 1008 0)
  news := [(1006, (.map [⟨(.int .i64 (.ofNat 1)), (.agg [(.int .i64 (.ofNat 0)), (.int .i64 (.ofNat 0))]), 0⟩] 1)), (1007, (.map [⟨(.int .i64 (.ofNat 0)), (.int .i64 (.ofNat 0)), 0⟩, ⟨(.int .i64 (.ofNat 1)), (.int .i64 (.ofNat 1)), 1⟩, ⟨(.int .i64 (.ofNat 2)), (.int .i64 (.ofNat 2)), 2⟩, ⟨(.int .i64 (.ofNat 3)), (.int .i64 (.ofNat 1)), 3⟩, ⟨(.int .i64 (.ofNat 4)), (.int .i64 (.ofNat 1)), 4⟩, ⟨(.int .i64 (.ofNat 5)), (.int .i64 (.ofNat 3)), 5⟩, ⟨(.int .i64 (.ofNat 6)), (.int .i64 (.ofNat 1)), 6⟩, ⟨(.int .i64 (.ofNat 7)), (.int .i64 (.ofNat 1)), 7⟩, ⟨(.int .i64 (.ofNat 8)), (.int .i64 (.ofNat 1)), 8⟩, ⟨(.int .i64 (.ofNat 9)), (.int .i64 (.ofNat 1)), 9⟩, ⟨(.int .i64 (.ofNat 10)), (.int .i64 (.ofNat 1)), 10⟩, ⟨(.int .i64 (.ofNat 11)), (.int .i64 (.ofNat 1)), 11⟩, ⟨(.int .i64 (.ofNat 12)), (.int .i64 (.ofNat 1)), 12⟩, ⟨(.int .i64 (.ofNat 13)), (.int .i64 (.ofNat 1)), 13⟩, ⟨(.int .i64 (.ofNat 14)), (.int .i64 (.ofNat 1)), 14⟩, ⟨(.int .i64 (.ofNat 15)), (.int .i64 (.ofNat 12)), 15⟩, ⟨(.int .i64 (.ofNat 16)), (.int .i64 (.ofNat 1)), 16⟩, ⟨(.int .i64 (.ofNat 17)), (.int .i64 (.ofNat 1)), 17⟩, ⟨(.int .i64 (.ofNat 18)), (.int .i64 (.ofNat 1)), 18⟩, ⟨(.int .i64 (.ofNat 19)), (.int .i64 (.ofNat 1)), 19⟩, ⟨(.int .i64 (.ofNat 20)), (.int .i64 (.ofNat 1)), 20⟩, ⟨(.int .i64 (.ofNat 21)), (.int .i64 (.ofNat 1)), 21⟩, ⟨(.int .i64 (.ofNat 22)), (.int .i64 (.ofNat 3)), 22⟩, ⟨(.int .i64 (.ofNat 23)), (.int .i64 (.ofNat 2)), 23⟩, ⟨(.int .i64 (.ofNat 24)), (.int .i64 (.ofNat 2)), 24⟩, ⟨(.int .i64 (.ofNat 25)), (.int .i64 (.ofNat 2)), 25⟩, ⟨(.int .i64 (.ofNat 26)), (.int .i64 (.ofNat 4)), 26⟩, ⟨(.int .i64 (.ofNat 27)), (.int .i64 (.ofNat 1)), 27⟩, ⟨(.int .i64 (.ofNat 28)), (.int .i64 (.ofNat 1)), 28⟩, ⟨(.int .i64 (.ofNat 29)), (.int .i64 (.ofNat 1)), 29⟩, ⟨(.int .i64 (.ofNat 30)), (.int .i64 (.ofNat 3)), 30⟩, ⟨(.int .i64 (.ofNat 31)), (.int .i64 (.ofNat 6)), 31⟩, ⟨(.int .i64 (.ofNat 32)), (.int .i64 (.ofNat 4)), 32⟩, ⟨(.int .i64 (.ofNat 33)), (.int .i64 (.ofNat 1)), 33⟩, ⟨(.int .i64 (.ofNat 34)), (.int .i64 (.ofNat 1)), 34⟩, ⟨(.int .i64 (.ofNat 35)), (.int .i64 (.ofNat 1)), 35⟩, ⟨(.int .i64 (.ofNat 36)), (.int .i64 (.ofNat 1)), 36⟩, ⟨(.int .i64 (.ofNat 37)), (.int .i64 (.ofNat 2)), 37⟩] 38)), (1008, (.cells 352 5 [(.int .i64 (.ofNat 1)), (.sl 1000 0 1 1 true), (.sl 1001 0 37 37 true), (.map 1006), (.map 1007)] .leaf false false none))]
  hi := 1068

def ent120 : Ent where
  k := 301
  args := [(.agg [(.int .i64 (.ofNat 1)), (.sl 1000 0 1 1 true)]), (.int .i64 (.ofNat 0)), (.int .i64 (.ofNat 0)), (.int .i64 (.ofNat 1))]
  need := [(1000, (.cells 140 6 [.nils, (.sl 1001 0 1 1 true), (.int .i64 (.ofNat 4)), (.sl 1002 0 1 1 true), .nils, (.int .i32 (.ofNat 0))] .leaf true false none)), (1001, (.cells 157 5 [(.int .i64 (.ofNat 2)), (.int .i64 (.ofNat 1)), (.int .i64 (.ofNat 0)), (.sl 1003 0 2 2 true), (.int .i32 (.ofNat 0))] .leaf true false none)), (1002, (.cells 3 1 [(.int .i64 (.ofNat 1))] .leaf true false none)), (1003, (.cells 3 2 [(.int .i64 (.ofNat 0)), (.int .i64 (.ofNat 0))] .leaf true false none))]
  n0 := 1004
  v := (.tup [(.agg [(.int .i64 (.ofNat 1)), (.sl 1000 0 1 1 true), (.int .i64 (.ofNat 2)), (.int .i64 (.ofNat 1)), (.int .i64 (.ofNat 0)), (.sl 1003 0 2 2 true), (.int .i32 (.ofNat 0)), (.int .i64 (.ofNat 0)), .nils, .nils, (.int .i32 (.ofNat 0)), (.bool false), (.int .i64 (.ofNat 1))]), (.bool true)])
  news := []
  hi := 1007

def ent121 : Ent where
  k := 451
  args := [(.agg [(.int .i64 (.ofNat 1)), (.sl 1000 0 1 1 true), (.int .i64 (.ofNat 2)), (.int .i64 (.ofNat 1)), (.int .i64 (.ofNat 0)), (.sl 1001 0 2 2 true), (.int .i32 (.ofNat 0)), (.int .i64 (.ofNat 0)), .nils, .nils, (.int .i32 (.ofNat 0)), (.bool false), (.int .i64 (.ofNat 1))])]
  need := [(1000, (.cells 140 6 [.nils, (.sl 1002 0 1 1 true), (.int .i64 (.ofNat 4)), (.sl 1003 0 1 1 true), .nils, (.int .i32 (.ofNat 0))] .leaf true false none)), (1001, (.cells 3 2 [(.int .i64 (.ofNat 0)), (.int .i64 (.ofNat 0))] .leaf true false none)), (1002, (.cells 157 5 [(.int .i64 (.ofNat 2)), (.int .i64 (.ofNat 1)), (.int .i64 (.ofNat 0)), (.sl 1001 0 2 2 true), (.int .i32 (.ofNat 0))] .leaf true false none)), (1003, (.cells 3 1 [(.int .i64 (.ofNat 1))] .leaf true false none))]
  n0 := 1004
  v := (.map 1007)
  news := [(1004, (.cells 437 13 [(.int .i64 (.ofNat 1)), (.sl 1000 0 1 1 true), (.int .i64 (.ofNat 2)), (.int .i64 (.ofNat 1)), (.int .i64 (.ofNat 0)), (.sl 1001 0 2 2 true), (.int .i32 (.ofNat 0)), (.int .i64 (.ofNat 0)), .nils, .nils, (.int .i32 (.ofNat 0)), (.bool false), (.int .i64 (.ofNat 1))] .leaf false false none)), (1005, (.cells 157 5 [(.int .i64 (.ofNat 0)), (.int .i64 (.ofNat 0)), (.int .i64 (.ofNat 0)), .nils, (.int .i32 (.ofNat 0))] (.node (.node (.node .leaf (some (.sl 1001 0 2 2 true)) .leaf) (some (.int .i64 (.ofNat 1))) .leaf) (some (.int .i64 (.ofNat 2))) (.node (.node .leaf (some (.int .i32 (.ofNat 0))) .leaf) (some (.int .i64 (.ofNat 0))) .leaf)) false false none)), (1006, (.cells 588 1 [.nilf] (.node .leaf (some (.fn 578 [] [])) .leaf) false false none)), (1007, (.map [⟨(.int .i64 (.ofNat 1)), (.fn 578 [] []), 0⟩, ⟨(.int .i64 (.ofNat 2)), (.fn 578 [] []), 1⟩, ⟨(.int .i64 (.ofNat 3)), (.fn 583 [] [(.ptr 1010 0), (.ptr 1005 0)]), 2⟩, ⟨(.int .i64 (.ofNat 4)), (.fn 578 [] []), 3⟩, ⟨(.int .i64 (.ofNat 5)), (.fn 578 [] []), 4⟩, ⟨(.int .i64 (.ofNat 6)), (.fn 578 [] []), 5⟩, ⟨(.int .i64 (.ofNat 7)), (.fn 578 [] []), 6⟩, ⟨(.int .i64 (.ofNat 8)), (.fn 578 [] []), 7⟩, ⟨(.int .i64 (.ofNat 9)), (.fn 578 [] []), 8⟩, ⟨(.int .i64 (.ofNat 10)), (.fn 578 [] []), 9⟩, ⟨(.int .i64 (.ofNat 11)), (.fn 578 [] []), 10⟩, ⟨(.int .i64 (.ofNat 12)), (.fn 578 [] []), 11⟩, ⟨(.int .i64 (.ofNat 13)), (.fn 578 [] []), 12⟩, ⟨(.int .i64 (.ofNat 14)), (.fn 578 [] []), 13⟩, ⟨(.int .i64 (.ofNat 15)), (.fn 578 [] []), 14⟩, ⟨(.int .i64 (.ofNat 16)), (.fn 585 [] [(.ptr 1004 0), (.ptr 1005 0), (.ptr 1025 0), (.ptr 1026 0), (.ptr 1024 0), (.ptr 1027 0)]), 15⟩, ⟨(.int .i64 (.ofNat 17)), (.fn 578 [] []), 16⟩, ⟨(.int .i64 (.ofNat 18)), (.fn 578 [] []), 17⟩, ⟨(.int .i64 (.ofNat 19)), (.fn 578 [] []), 18⟩, ⟨(.int .i64 (.ofNat 20)), (.fn 578 [] []), 19⟩, ⟨(.int .i64 (.ofNat 21)), (.fn 578 [] []), 20⟩, ⟨(.int .i64 (.ofNat 22)), (.fn 587 [] [(.ptr 1004 0), (.ptr 1005 0), (.ptr 1006 0)]), 21⟩, ⟨(.int .i64 (.ofNat 23)), (.fn 578 [] []), 22⟩, ⟨(.int .i64 (.ofNat 24)), (.fn 578 [] []), 23⟩, ⟨(.int .i64 (.ofNat 25)), (.fn 578 [] []), 24⟩, ⟨(.int .i64 (.ofNat 26)), (.fn 578 [] []), 25⟩, ⟨(.int .i64 (.ofNat 27)), (.fn 578 [] []), 26⟩, ⟨(.int .i64 (.ofNat 28)), (.fn 578 [] []), 27⟩, ⟨(.int .i64 (.ofNat 29)), (.fn 578 [] []), 28⟩, ⟨(.int .i64 (.ofNat 30)), (.fn 578 [] []), 29⟩, ⟨(.int .i64 (.ofNat 31)), (.fn 578 [] []), 30⟩, ⟨(.int .i64 (.ofNat 32)), (.fn 578 [] []), 31⟩] 32)), (1010, (.cells 3 1 [(.int .i64 (.ofNat 0))] (.node .leaf (some (.int .i64 (.ofNat 2))) .leaf) false false none)), (1024, (.cells 3 1 [(.int .i64 (.ofNat 18))] .leaf false false none)), (1025, (.cells 3 1 [(.int .i64 (.negSucc 127))] .leaf false false none)), (1026, (.cells 3 1 [(.int .i64 (.ofNat 127))] .leaf false false none)), (1027, (.cells 3 1 [(.int .i64 (.ofNat 1))] .leaf false false none))]
  hi := 1063

def ent122 : Ent where
  k := 179
  args := [(.agg [(.int .i64 (.ofNat 1)), (.sl 1000 0 1 1 true)]), (.int .i64 (.ofNat 0)), (.int .i64 (.ofNat 0)), (.int .i64 (.ofNat 0)), (.int .i64 (.ofNat 1))]
  need := [(1000, (.cells 140 6 [.nils, (.sl 1001 0 1 1 true), (.int .i64 (.ofNat 4)), (.sl 1002 0 1 1 true), .nils, (.int .i32 (.ofNat 0))] .leaf true false none)), (1001, (.cells 157 5 [(.int .i64 (.ofNat 2)), (.int .i64 (.ofNat 1)), (.int .i64 (.ofNat 0)), (.sl 1003 0 2 2 true), (.int .i32 (.ofNat 0))] .leaf true false none)), (1002, (.cells 3 1 [(.int .i64 (.ofNat 1))] .leaf true false none)), (1003, (.cells 3 2 [(.int .i64 (.ofNat 0)), (.int .i64 (.ofNat 0))] .leaf true false none))]
  n0 := 1004
  v := (.tup [.nils, (.agg [(.int .i64 (.ofNat 0)), (.int .i64 (.ofNat 0)), (.int .i64 (.ofNat 0)), .nils, (.int .i32 (.ofNat 0))]), (.bool false)])
  news := []
  hi := 1125

def ent123 : Ent where
  k := 179
  args := [(.agg [(.int .i64 (.ofNat 1)), (.sl 1000 0 1 1 true)]), (.int .i64 (.ofNat 0)), (.int .i64 (.ofNat 0)), (.int .i64 (.ofNat 1)), (.int .i64 (.ofNat 1))]
  need := [(1000, (.cells 140 6 [.nils, (.sl 1001 0 1 1 true), (.int .i64 (.ofNat 4)), (.sl 1002 0 1 1 true), .nils, (.int .i32 (.ofNat 0))] .leaf true false none)), (1001, (.cells 157 5 [(.int .i64 (.ofNat 2)), (.int .i64 (.ofNat 1)), (.int .i64 (.ofNat 0)), (.sl 1003 0 2 2 true), (.int .i32 (.ofNat 0))] .leaf true false none)), (1002, (.cells 3 1 [(.int .i64 (.ofNat 1))] .leaf true false none)), (1003, (.cells 3 2 [(.int .i64 (.ofNat 0)), (.int .i64 (.ofNat 0))] .leaf true false none))]
  n0 := 1004
  v := (.tup [.nils, (.agg [(.int .i64 (.ofNat 0)), (.int .i64 (.ofNat 0)), (.int .i64 (.ofNat 0)), .nils, (.int .i32 (.ofNat 0))]), (.bool false)])
  news := []
  hi := 1126

def ent124 : Ent where
  k := 179
  args := [(.agg [(.int .i64 (.ofNat 1)), (.sl 1000 0 1 1 true)]), (.int .i64 (.ofNat 0)), (.int .i64 (.ofNat 0)), (.int .i64 (.ofNat 2)), (.int .i64 (.ofNat 1))]
  need := [(1000, (.cells 140 6 [.nils, (.sl 1001 0 1 1 true), (.int .i64 (.ofNat 4)), (.sl 1002 0 1 1 true), .nils, (.int .i32 (.ofNat 0))] .leaf true false none)), (1001, (.cells 157 5 [(.int .i64 (.ofNat 2)), (.int .i64 (.ofNat 1)), (.int .i64 (.ofNat 0)), (.sl 1003 0 2 2 true), (.int .i32 (.ofNat 0))] .leaf true false none)), (1002, (.cells 3 1 [(.int .i64 (.ofNat 1))] .leaf true false none)), (1003, (.cells 3 2 [(.int .i64 (.ofNat 0)), (.int .i64 (.ofNat 0))] .leaf true false none))]
  n0 := 1004
  v := (.tup [.nils, (.agg [(.int .i64 (.ofNat 0)), (.int .i64 (.ofNat 0)), (.int .i64 (.ofNat 0)), .nils, (.int .i32 (.ofNat 0))]), (.bool false)])
  news := []
  hi := 1126

def ent125 : Ent where
  k := 179
  args := [(.agg [(.int .i64 (.ofNat 1)), (.sl 1000 0 1 1 true)]), (.int .i64 (.ofNat 0)), (.int .i64 (.ofNat 0)), (.int .i64 (.ofNat 3)), (.int .i64 (.ofNat 1))]
  need := [(1000, (.cells 140 6 [.nils, (.sl 1001 0 1 1 true), (.int .i64 (.ofNat 4)), (.sl 1002 0 1 1 true), .nils, (.int .i32 (.ofNat 0))] .leaf true false none)), (1001, (.cells 157 5 [(.int .i64 (.ofNat 2)), (.int .i64 (.ofNat 1)), (.int .i64 (.ofNat 0)), (.sl 1003 0 2 2 true), (.int .i32 (.ofNat 0))] .leaf true false none)), (1002, (.cells 3 1 [(.int .i64 (.ofNat 1))] .leaf true false none)), (1003, (.cells 3 2 [(.int .i64 (.ofNat 0)), (.int .i64 (.ofNat 0))] .leaf true false none))]
  n0 := 1004
  v := (.tup [(.sl 1129 0 1 1 false), (.agg [(.int .i64 (.ofNat 0)), (.int .i64 (.ofNat 0)), (.int .i64 (.ofNat 0)), .nils, (.int .i32 (.ofNat 0))]), (.bool true)])
  news := [(1129, (.cells 183 8 [(.int .i64 (.ofNat 5)), (.int .i64 (.ofNat 1)), (.int .i64 (.ofNat 0)), (.int .i64 (.ofNat 0)), (.int .i64 (.ofNat 0)), (.int .i64 (.ofNat 0)), (.int .i32 (.ofNat 0)), .nils] .leaf false false none))]
  hi := 1131

def ent126 : Ent where
  k := 179
  args := [(.agg [(.int .i64 (.ofNat 1)), (.sl 1000 0 1 1 true)]), (.int .i64 (.ofNat 0)), (.int .i64 (.ofNat 0)), (.int .i64 (.ofNat 4)), (.int .i64 (.ofNat 1))]
  need := [(1000, (.cells 140 6 [.nils, (.sl 1001 0 1 1 true), (.int .i64 (.ofNat 4)), (.sl 1002 0 1 1 true), .nils, (.int .i32 (.ofNat 0))] .leaf true false none)), (1001, (.cells 157 5 [(.int .i64 (.ofNat 2)), (.int .i64 (.ofNat 1)), (.int .i64 (.ofNat 0)), (.sl 1003 0 2 2 true), (.int .i32 (.ofNat 0))] .leaf true false none)), (1002, (.cells 3 1 [(.int .i64 (.ofNat 1))] .leaf true false none)), (1003, (.cells 3 2 [(.int .i64 (.ofNat 0)), (.int .i64 (.ofNat 0))] .leaf true false none))]
  n0 := 1004
  v := (.tup [.nils, (.agg [(.int .i64 (.ofNat 0)), (.int .i64 (.ofNat 0)), (.int .i64 (.ofNat 0)), .nils, (.int .i32 (.ofNat 0))]), (.bool false)])
  news := []
  hi := 1126

def ent127 : Ent where
  k := 179
  args := [(.agg [(.int .i64 (.ofNat 1)), (.sl 1000 0 1 1 true)]), (.int .i64 (.ofNat 0)), (.int .i64 (.ofNat 0)), (.int .i64 (.ofNat 5)), (.int .i64 (.ofNat 1))]
  need := [(1000, (.cells 140 6 [.nils, (.sl 1001 0 1 1 true), (.int .i64 (.ofNat 4)), (.sl 1002 0 1 1 true), .nils, (.int .i32 (.ofNat 0))] .leaf true false none)), (1001, (.cells 157 5 [(.int .i64 (.ofNat 2)), (.int .i64 (.ofNat 1)), (.int .i64 (.ofNat 0)), (.sl 1003 0 2 2 true), (.int .i32 (.ofNat 0))] .leaf true false none)), (1002, (.cells 3 1 [(.int .i64 (.ofNat 1))] .leaf true false none)), (1003, (.cells 3 2 [(.int .i64 (.ofNat 0)), (.int .i64 (.ofNat 0))] .leaf true false none))]
  n0 := 1004
  v := (.tup [.nils, (.agg [(.int .i64 (.ofNat 0)), (.int .i64 (.ofNat 0)), (.int .i64 (.ofNat 0)), .nils, (.int .i32 (.ofNat 0))]), (.bool false)])
  news := []
  hi := 1126

def ent128 : Ent where
  k := 179
  args := [(.agg [(.int .i64 (.ofNat 1)), (.sl 1000 0 1 1 true)]), (.int .i64 (.ofNat 0)), (.int .i64 (.ofNat 0)), (.int .i64 (.ofNat 6)), (.int .i64 (.ofNat 1))]
  need := [(1000, (.cells 140 6 [.nils, (.sl 1001 0 1 1 true), (.int .i64 (.ofNat 4)), (.sl 1002 0 1 1 true), .nils, (.int .i32 (.ofNat 0))] .leaf true false none)), (1001, (.cells 157 5 [(.int .i64 (.ofNat 2)), (.int .i64 (.ofNat 1)), (.int .i64 (.ofNat 0)), (.sl 1003 0 2 2 true), (.int .i32 (.ofNat 0))] .leaf true false none)), (1002, (.cells 3 1 [(.int .i64 (.ofNat 1))] .leaf true false none)), (1003, (.cells 3 2 [(.int .i64 (.ofNat 0)), (.int .i64 (.ofNat 0))] .leaf true false none))]
  n0 := 1004
  v := (.tup [.nils, (.agg [(.int .i64 (.ofNat 0)), (.int .i64 (.ofNat 0)), (.int .i64 (.ofNat 0)), .nils, (.int .i32 (.ofNat 0))]), (.bool false)])
  news := []
  hi := 1126

def ent129 : Ent where
  k := 179
  args := [(.agg [(.int .i64 (.ofNat 1)), (.sl 1000 0 1 1 true)]), (.int .i64 (.ofNat 0)), (.int .i64 (.ofNat 0)), (.int .i64 (.ofNat 7)), (.int .i64 (.ofNat 1))]
  need := [(1000, (.cells 140 6 [.nils, (.sl 1001 0 1 1 true), (.int .i64 (.ofNat 4)), (.sl 1002 0 1 1 true), .nils, (.int .i32 (.ofNat 0))] .leaf true false none)), (1001, (.cells 157 5 [(.int .i64 (.ofNat 2)), (.int .i64 (.ofNat 1)), (.int .i64 (.ofNat 0)), (.sl 1003 0 2 2 true), (.int .i32 (.ofNat 0))] .leaf true false none)), (1002, (.cells 3 1 [(.int .i64 (.ofNat 1))] .leaf true false none)), (1003, (.cells 3 2 [(.int .i64 (.ofNat 0)), (.int .i64 (.ofNat 0))] .leaf true false none))]
  n0 := 1004
  v := (.tup [.nils, (.agg [(.int .i64 (.ofNat 0)), (.int .i64 (.ofNat 0)), (.int .i64 (.ofNat 0)), .nils, (.int .i32 (.ofNat 0))]), (.bool false)])
  news := []
  hi := 1126

def ent130 : Ent where
  k := 179
  args := [(.agg [(.int .i64 (.ofNat 1)), (.sl 1000 0 1 1 true)]), (.int .i64 (.ofNat 0)), (.int .i64 (.ofNat 0)), (.int .i64 (.ofNat 8)), (.int .i64 (.ofNat 1))]
  need := [(1000, (.cells 140 6 [.nils, (.sl 1001 0 1 1 true), (.int .i64 (.ofNat 4)), (.sl 1002 0 1 1 true), .nils, (.int .i32 (.ofNat 0))] .leaf true false none)), (1001, (.cells 157 5 [(.int .i64 (.ofNat 2)), (.int .i64 (.ofNat 1)), (.int .i64 (.ofNat 0)), (.sl 1003 0 2 2 true), (.int .i32 (.ofNat 0))] .leaf true false none)), (1002, (.cells 3 1 [(.int .i64 (.ofNat 1))] .leaf true false none)), (1003, (.cells 3 2 [(.int .i64 (.ofNat 0)), (.int .i64 (.ofNat 0))] .leaf true false none))]
  n0 := 1004
  v := (.tup [.nils, (.agg [(.int .i64 (.ofNat 0)), (.int .i64 (.ofNat 0)), (.int .i64 (.ofNat 0)), .nils, (.int .i32 (.ofNat 0))]), (.bool false)])
  news := []
  hi := 1126

def ent131 : Ent where
  k := 179
  args := [(.agg [(.int .i64 (.ofNat 1)), (.sl 1000 0 1 1 true)]), (.int .i64 (.ofNat 0)), (.int .i64 (.ofNat 0)), (.int .i64 (.ofNat 9)), (.int .i64 (.ofNat 1))]
  need := [(1000, (.cells 140 6 [.nils, (.sl 1001 0 1 1 true), (.int .i64 (.ofNat 4)), (.sl 1002 0 1 1 true), .nils, (.int .i32 (.ofNat 0))] .leaf true false none)), (1001, (.cells 157 5 [(.int .i64 (.ofNat 2)), (.int .i64 (.ofNat 1)), (.int .i64 (.ofNat 0)), (.sl 1003 0 2 2 true), (.int .i32 (.ofNat 0))] .leaf true false none)), (1002, (.cells 3 1 [(.int .i64 (.ofNat 1))] .leaf true false none)), (1003, (.cells 3 2 [(.int .i64 (.ofNat 0)), (.int .i64 (.ofNat 0))] .leaf true false none))]
  n0 := 1004
  v := (.tup [.nils, (.agg [(.int .i64 (.ofNat 0)), (.int .i64 (.ofNat 0)), (.int .i64 (.ofNat 0)), .nils, (.int .i32 (.ofNat 0))]), (.bool false)])
  news := []
  hi := 1126

def ent132 : Ent where
  k := 179
  args := [(.agg [(.int .i64 (.ofNat 1)), (.sl 1000 0 1 1 true)]), (.int .i64 (.ofNat 0)), (.int .i64 (.ofNat 0)), (.int .i64 (.ofNat 10)), (.int .i64 (.ofNat 1))]
  need := [(1000, (.cells 140 6 [.nils, (.sl 1001 0 1 1 true), (.int .i64 (.ofNat 4)), (.sl 1002 0 1 1 true), .nils, (.int .i32 (.ofNat 0))] .leaf true false none)), (1001, (.cells 157 5 [(.int .i64 (.ofNat 2)), (.int .i64 (.ofNat 1)), (.int .i64 (.ofNat 0)), (.sl 1003 0 2 2 true), (.int .i32 (.ofNat 0))] .leaf true false none)), (1002, (.cells 3 1 [(.int .i64 (.ofNat 1))] .leaf true false none)), (1003, (.cells 3 2 [(.int .i64 (.ofNat 0)), (.int .i64 (.ofNat 0))] .leaf true false none))]
  n0 := 1004
  v := (.tup [.nils, (.agg [(.int .i64 (.ofNat 0)), (.int .i64 (.ofNat 0)), (.int .i64 (.ofNat 0)), .nils, (.int .i32 (.ofNat 0))]), (.bool false)])
  news := []
  hi := 1126

def ent133 : Ent where
  k := 179
  args := [(.agg [(.int .i64 (.ofNat 1)), (.sl 1000 0 1 1 true)]), (.int .i64 (.ofNat 0)), (.int .i64 (.ofNat 0)), (.int .i64 (.ofNat 11)), (.int .i64 (.ofNat 1))]
  need := [(1000, (.cells 140 6 [.nils, (.sl 1001 0 1 1 true), (.int .i64 (.ofNat 4)), (.sl 1002 0 1 1 true), .nils, (.int .i32 (.ofNat 0))] .leaf true false none)), (1001, (.cells 157 5 [(.int .i64 (.ofNat 2)), (.int .i64 (.ofNat 1)), (.int .i64 (.ofNat 0)), (.sl 1003 0 2 2 true), (.int .i32 (.ofNat 0))] .leaf true false none)), (1002, (.cells 3 1 [(.int .i64 (.ofNat 1))] .leaf true false none)), (1003, (.cells 3 2 [(.int .i64 (.ofNat 0)), (.int .i64 (.ofNat 0))] .leaf true false none))]
  n0 := 1004
  v := (.tup [.nils, (.agg [(.int .i64 (.ofNat 0)), (.int .i64 (.ofNat 0)), (.int .i64 (.ofNat 0)), .nils, (.int .i32 (.ofNat 0))]), (.bool false)])
  news := []
  hi := 1126

def ent134 : Ent where
  k := 179
  args := [(.agg [(.int .i64 (.ofNat 1)), (.sl 1000 0 1 1 true)]), (.int .i64 (.ofNat 0)), (.int .i64 (.ofNat 0)), (.int .i64 (.ofNat 12)), (.int .i64 (.ofNat 1))]
  need := [(1000, (.cells 140 6 [.nils, (.sl 1001 0 1 1 true), (.int .i64 (.ofNat 4)), (.sl 1002 0 1 1 true), .nils, (.int .i32 (.ofNat 0))] .leaf true false none)), (1001, (.cells 157 5 [(.int .i64 (.ofNat 2)), (.int .i64 (.ofNat 1)), (.int .i64 (.ofNat 0)), (.sl 1003 0 2 2 true), (.int .i32 (.ofNat 0))] .leaf true false none)), (1002, (.cells 3 1 [(.int .i64 (.ofNat 1))] .leaf true false none)), (1003, (.cells 3 2 [(.int .i64 (.ofNat 0)), (.int .i64 (.ofNat 0))] .leaf true false none))]
  n0 := 1004
  v := (.tup [.nils, (.agg [(.int .i64 (.ofNat 0)), (.int .i64 (.ofNat 0)), (.int .i64 (.ofNat 0)), .nils, (.int .i32 (.ofNat 0))]), (.bool false)])
  news := []
  hi := 1126

def ent135 : Ent where
  k := 179
  args := [(.agg [(.int .i64 (.ofNat 1)), (.sl 1000 0 1 1 true)]), (.int .i64 (.ofNat 0)), (.int .i64 (.ofNat 0)), (.int .i64 (.ofNat 13)), (.int .i64 (.ofNat 1))]
  need := [(1000, (.cells 140 6 [.nils, (.sl 1001 0 1 1 true), (.int .i64 (.ofNat 4)), (.sl 1002 0 1 1 true), .nils, (.int .i32 (.ofNat 0))] .leaf true false none)), (1001, (.cells 157 5 [(.int .i64 (.ofNat 2)), (.int .i64 (.ofNat 1)), (.int .i64 (.ofNat 0)), (.sl 1003 0 2 2 true), (.int .i32 (.ofNat 0))] .leaf true false none)), (1002, (.cells 3 1 [(.int .i64 (.ofNat 1))] .leaf true false none)), (1003, (.cells 3 2 [(.int .i64 (.ofNat 0)), (.int .i64 (.ofNat 0))] .leaf true false none))]
  n0 := 1004
  v := (.tup [.nils, (.agg [(.int .i64 (.ofNat 0)), (.int .i64 (.ofNat 0)), (.int .i64 (.ofNat 0)), .nils, (.int .i32 (.ofNat 0))]), (.bool false)])
  news := []
  hi := 1126

def ent136 : Ent where
  k := 179
  args := [(.agg [(.int .i64 (.ofNat 1)), (.sl 1000 0 1 1 true)]), (.int .i64 (.ofNat 0)), (.int .i64 (.ofNat 0)), (.int .i64 (.ofNat 14)), (.int .i64 (.ofNat 1))]
  need := [(1000, (.cells 140 6 [.nils, (.sl 1001 0 1 1 true), (.int .i64 (.ofNat 4)), (.sl 1002 0 1 1 true), .nils, (.int .i32 (.ofNat 0))] .leaf true false none)), (1001, (.cells 157 5 [(.int .i64 (.ofNat 2)), (.int .i64 (.ofNat 1)), (.int .i64 (.ofNat 0)), (.sl 1003 0 2 2 true), (.int .i32 (.ofNat 0))] .leaf true false none)), (1002, (.cells 3 1 [(.int .i64 (.ofNat 1))] .leaf true false none)), (1003, (.cells 3 2 [(.int .i64 (.ofNat 0)), (.int .i64 (.ofNat 0))] .leaf true false none))]
  n0 := 1004
  v := (.tup [.nils, (.agg [(.int .i64 (.ofNat 0)), (.int .i64 (.ofNat 0)), (.int .i64 (.ofNat 0)), .nils, (.int .i32 (.ofNat 0))]), (.bool false)])
  news := []
  hi := 1126

def ent137 : Ent where
  k := 179
  args := [(.agg [(.int .i64 (.ofNat 1)), (.sl 1000 0 1 1 true)]), (.int .i64 (.ofNat 0)), (.int .i64 (.ofNat 0)), (.int .i64 (.ofNat 15)), (.int .i64 (.ofNat 1))]
  need := [(1000, (.cells 140 6 [.nils, (.sl 1001 0 1 1 true), (.int .i64 (.ofNat 4)), (.sl 1002 0 1 1 true), .nils, (.int .i32 (.ofNat 0))] .leaf true false none)), (1001, (.cells 157 5 [(.int .i64 (.ofNat 2)), (.int .i64 (.ofNat 1)), (.int .i64 (.ofNat 0)), (.sl 1003 0 2 2 true), (.int .i32 (.ofNat 0))] .leaf true false none)), (1002, (.cells 3 1 [(.int .i64 (.ofNat 1))] .leaf true false none)), (1003, (.cells 3 2 [(.int .i64 (.ofNat 0)), (.int .i64 (.ofNat 0))] .leaf true false none))]
  n0 := 1004
  v := (.tup [.nils, (.agg [(.int .i64 (.ofNat 0)), (.int .i64 (.ofNat 0)), (.int .i64 (.ofNat 0)), .nils, (.int .i32 (.ofNat 0))]), (.bool false)])
  news := []
  hi := 1126

def ent138 : Ent where
  k := 179
  args := [(.agg [(.int .i64 (.ofNat 1)), (.sl 1000 0 1 1 true)]), (.int .i64 (.ofNat 0)), (.int .i64 (.ofNat 0)), (.int .i64 (.ofNat 16)), (.int .i64 (.ofNat 1))]
  need := [(1000, (.cells 140 6 [.nils, (.sl 1001 0 1 1 true), (.int .i64 (.ofNat 4)), (.sl 1002 0 1 1 true), .nils, (.int .i32 (.ofNat 0))] .leaf true false none)), (1001, (.cells 157 5 [(.int .i64 (.ofNat 2)), (.int .i64 (.ofNat 1)), (.int .i64 (.ofNat 0)), (.sl 1003 0 2 2 true), (.int .i32 (.ofNat 0))] .leaf true false none)), (1002, (.cells 3 1 [(.int .i64 (.ofNat 1))] .leaf true false none)), (1003, (.cells 3 2 [(.int .i64 (.ofNat 0)), (.int .i64 (.ofNat 0))] .leaf true false none))]
  n0 := 1004
  v := (.tup [.nils, (.agg [(.int .i64 (.ofNat 0)), (.int .i64 (.ofNat 0)), (.int .i64 (.ofNat 0)), .nils, (.int .i32 (.ofNat 0))]), (.bool false)])
  news := []
  hi := 1141

def ent139 : Ent where
  k := 179
  args := [(.agg [(.int .i64 (.ofNat 1)), (.sl 1000 0 1 1 true)]), (.int .i64 (.ofNat 0)), (.int .i64 (.ofNat 0)), (.int .i64 (.ofNat 17)), (.int .i64 (.ofNat 1))]
  need := [(1000, (.cells 140 6 [.nils, (.sl 1001 0 1 1 true), (.int .i64 (.ofNat 4)), (.sl 1002 0 1 1 true), .nils, (.int .i32 (.ofNat 0))] .leaf true false none)), (1001, (.cells 157 5 [(.int .i64 (.ofNat 2)), (.int .i64 (.ofNat 1)), (.int .i64 (.ofNat 0)), (.sl 1003 0 2 2 true), (.int .i32 (.ofNat 0))] .leaf true false none)), (1002, (.cells 3 1 [(.int .i64 (.ofNat 1))] .leaf true false none)), (1003, (.cells 3 2 [(.int .i64 (.ofNat 0)), (.int .i64 (.ofNat 0))] .leaf true false none))]
  n0 := 1004
  v := (.tup [.nils, (.agg [(.int .i64 (.ofNat 0)), (.int .i64 (.ofNat 0)), (.int .i64 (.ofNat 0)), .nils, (.int .i32 (.ofNat 0))]), (.bool false)])
  news := []
  hi := 1126

def ent140 : Ent where
  k := 179
  args := [(.agg [(.int .i64 (.ofNat 1)), (.sl 1000 0 1 1 true)]), (.int .i64 (.ofNat 0)), (.int .i64 (.ofNat 0)), (.int .i64 (.ofNat 18)), (.int .i64 (.ofNat 1))]
  need := [(1000, (.cells 140 6 [.nils, (.sl 1001 0 1 1 true), (.int .i64 (.ofNat 4)), (.sl 1002 0 1 1 true), .nils, (.int .i32 (.ofNat 0))] .leaf true false none)), (1001, (.cells 157 5 [(.int .i64 (.ofNat 2)), (.int .i64 (.ofNat 1)), (.int .i64 (.ofNat 0)), (.sl 1003 0 2 2 true), (.int .i32 (.ofNat 0))] .leaf true false none)), (1002, (.cells 3 1 [(.int .i64 (.ofNat 1))] .leaf true false none)), (1003, (.cells 3 2 [(.int .i64 (.ofNat 0)), (.int .i64 (.ofNat 0))] .leaf true false none))]
  n0 := 1004
  v := (.tup [.nils, (.agg [(.int .i64 (.ofNat 0)), (.int .i64 (.ofNat 0)), (.int .i64 (.ofNat 0)), .nils, (.int .i32 (.ofNat 0))]), (.bool false)])
  news := []
  hi := 1126

def ent141 : Ent where
  k := 179
  args := [(.agg [(.int .i64 (.ofNat 1)), (.sl 1000 0 1 1 true)]), (.int .i64 (.ofNat 0)), (.int .i64 (.ofNat 0)), (.int .i64 (.ofNat 19)), (.int .i64 (.ofNat 1))]
  need := [(1000, (.cells 140 6 [.nils, (.sl 1001 0 1 1 true), (.int .i64 (.ofNat 4)), (.sl 1002 0 1 1 true), .nils, (.int .i32 (.ofNat 0))] .leaf true false none)), (1001, (.cells 157 5 [(.int .i64 (.ofNat 2)), (.int .i64 (.ofNat 1)), (.int .i64 (.ofNat 0)), (.sl 1003 0 2 2 true), (.int .i32 (.ofNat 0))] .leaf true false none)), (1002, (.cells 3 1 [(.int .i64 (.ofNat 1))] .leaf true false none)), (1003, (.cells 3 2 [(.int .i64 (.ofNat 0)), (.int .i64 (.ofNat 0))] .leaf true false none))]
  n0 := 1004
  v := (.tup [.nils, (.agg [(.int .i64 (.ofNat 0)), (.int .i64 (.ofNat 0)), (.int .i64 (.ofNat 0)), .nils, (.int .i32 (.ofNat 0))]), (.bool false)])
  news := []
  hi := 1126

def ent142 : Ent where
  k := 179
  args := [(.agg [(.int .i64 (.ofNat 1)), (.sl 1000 0 1 1 true)]), (.int .i64 (.ofNat 0)), (.int .i64 (.ofNat 0)), (.int .i64 (.ofNat 20)), (.int .i64 (.ofNat 1))]
  need := [(1000, (.cells 140 6 [.nils, (.sl 1001 0 1 1 true), (.int .i64 (.ofNat 4)), (.sl 1002 0 1 1 true), .nils, (.int .i32 (.ofNat 0))] .leaf true false none)), (1001, (.cells 157 5 [(.int .i64 (.ofNat 2)), (.int .i64 (.ofNat 1)), (.int .i64 (.ofNat 0)), (.sl 1003 0 2 2 true), (.int .i32 (.ofNat 0))] .leaf true false none)), (1002, (.cells 3 1 [(.int .i64 (.ofNat 1))] .leaf true false none)), (1003, (.cells 3 2 [(.int .i64 (.ofNat 0)), (.int .i64 (.ofNat 0))] .leaf true false none))]
  n0 := 1004
  v := (.tup [.nils, (.agg [(.int .i64 (.ofNat 0)), (.int .i64 (.ofNat 0)), (.int .i64 (.ofNat 0)), .nils, (.int .i32 (.ofNat 0))]), (.bool false)])
  news := []
  hi := 1126

def ent143 : Ent where
  k := 179
  args := [(.agg [(.int .i64 (.ofNat 1)), (.sl 1000 0 1 1 true)]), (.int .i64 (.ofNat 0)), (.int .i64 (.ofNat 0)), (.int .i64 (.ofNat 21)), (.int .i64 (.ofNat 1))]
  need := [(1000, (.cells 140 6 [.nils, (.sl 1001 0 1 1 true), (.int .i64 (.ofNat 4)), (.sl 1002 0 1 1 true), .nils, (.int .i32 (.ofNat 0))] .leaf true false none)), (1001, (.cells 157 5 [(.int .i64 (.ofNat 2)), (.int .i64 (.ofNat 1)), (.int .i64 (.ofNat 0)), (.sl 1003 0 2 2 true), (.int .i32 (.ofNat 0))] .leaf true false none)), (1002, (.cells 3 1 [(.int .i64 (.ofNat 1))] .leaf true false none)), (1003, (.cells 3 2 [(.int .i64 (.ofNat 0)), (.int .i64 (.ofNat 0))] .leaf true false none))]
  n0 := 1004
  v := (.tup [.nils, (.agg [(.int .i64 (.ofNat 0)), (.int .i64 (.ofNat 0)), (.int .i64 (.ofNat 0)), .nils, (.int .i32 (.ofNat 0))]), (.bool false)])
  news := []
  hi := 1126

def ent144 : Ent where
  k := 179
  args := [(.agg [(.int .i64 (.ofNat 1)), (.sl 1000 0 1 1 true)]), (.int .i64 (.ofNat 0)), (.int .i64 (.ofNat 0)), (.int .i64 (.ofNat 22)), (.int .i64 (.ofNat 1))]
  need := [(1000, (.cells 140 6 [.nils, (.sl 1001 0 1 1 true), (.int .i64 (.ofNat 4)), (.sl 1002 0 1 1 true), .nils, (.int .i32 (.ofNat 0))] .leaf true false none)), (1001, (.cells 157 5 [(.int .i64 (.ofNat 2)), (.int .i64 (.ofNat 1)), (.int .i64 (.ofNat 0)), (.sl 1003 0 2 2 true), (.int .i32 (.ofNat 0))] .leaf true false none)), (1002, (.cells 3 1 [(.int .i64 (.ofNat 1))] .leaf true false none)), (1003, (.cells 3 2 [(.int .i64 (.ofNat 0)), (.int .i64 (.ofNat 0))] .leaf true false none))]
  n0 := 1004
  v := (.tup [.nils, (.agg [(.int .i64 (.ofNat 0)), (.int .i64 (.ofNat 0)), (.int .i64 (.ofNat 0)), .nils, (.int .i32 (.ofNat 0))]), (.bool false)])
  news := []
  hi := 1135

def ent145 : Ent where
  k := 179
  args := [(.agg [(.int .i64 (.ofNat 1)), (.sl 1000 0 1 1 true)]), (.int .i64 (.ofNat 0)), (.int .i64 (.ofNat 0)), (.int .i64 (.ofNat 23)), (.int .i64 (.ofNat 1))]
  need := [(1000, (.cells 140 6 [.nils, (.sl 1001 0 1 1 true), (.int .i64 (.ofNat 4)), (.sl 1002 0 1 1 true), .nils, (.int .i32 (.ofNat 0))] .leaf true false none)), (1001, (.cells 157 5 [(.int .i64 (.ofNat 2)), (.int .i64 (.ofNat 1)), (.int .i64 (.ofNat 0)), (.sl 1003 0 2 2 true), (.int .i32 (.ofNat 0))] .leaf true false none)), (1002, (.cells 3 1 [(.int .i64 (.ofNat 1))] .leaf true false none)), (1003, (.cells 3 2 [(.int .i64 (.ofNat 0)), (.int .i64 (.ofNat 0))] .leaf true false none))]
  n0 := 1004
  v := (.tup [.nils, (.agg [(.int .i64 (.ofNat 0)), (.int .i64 (.ofNat 0)), (.int .i64 (.ofNat 0)), .nils, (.int .i32 (.ofNat 0))]), (.bool false)])
  news := []
  hi := 1126

def ent146 : Ent where
  k := 179
  args := [(.agg [(.int .i64 (.ofNat 1)), (.sl 1000 0 1 1 true)]), (.int .i64 (.ofNat 0)), (.int .i64 (.ofNat 0)), (.int .i64 (.ofNat 24)), (.int .i64 (.ofNat 1))]
  need := [(1000, (.cells 140 6 [.nils, (.sl 1001 0 1 1 true), (.int .i64 (.ofNat 4)), (.sl 1002 0 1 1 true), .nils, (.int .i32 (.ofNat 0))] .leaf true false none)), (1001, (.cells 157 5 [(.int .i64 (.ofNat 2)), (.int .i64 (.ofNat 1)), (.int .i64 (.ofNat 0)), (.sl 1003 0 2 2 true), (.int .i32 (.ofNat 0))] .leaf true false none)), (1002, (.cells 3 1 [(.int .i64 (.ofNat 1))] .leaf true false none)), (1003, (.cells 3 2 [(.int .i64 (.ofNat 0)), (.int .i64 (.ofNat 0))] .leaf true false none))]
  n0 := 1004
  v := (.tup [.nils, (.agg [(.int .i64 (.ofNat 0)), (.int .i64 (.ofNat 0)), (.int .i64 (.ofNat 0)), .nils, (.int .i32 (.ofNat 0))]), (.bool false)])
  news := []
  hi := 1126

def ent147 : Ent where
  k := 179
  args := [(.agg [(.int .i64 (.ofNat 1)), (.sl 1000 0 1 1 true)]), (.int .i64 (.ofNat 0)), (.int .i64 (.ofNat 0)), (.int .i64 (.ofNat 25)), (.int .i64 (.ofNat 1))]
  need := [(1000, (.cells 140 6 [.nils, (.sl 1001 0 1 1 true), (.int .i64 (.ofNat 4)), (.sl 1002 0 1 1 true), .nils, (.int .i32 (.ofNat 0))] .leaf true false none)), (1001, (.cells 157 5 [(.int .i64 (.ofNat 2)), (.int .i64 (.ofNat 1)), (.int .i64 (.ofNat 0)), (.sl 1003 0 2 2 true), (.int .i32 (.ofNat 0))] .leaf true false none)), (1002, (.cells 3 1 [(.int .i64 (.ofNat 1))] .leaf true false none)), (1003, (.cells 3 2 [(.int .i64 (.ofNat 0)), (.int .i64 (.ofNat 0))] .leaf true false none))]
  n0 := 1004
  v := (.tup [.nils, (.agg [(.int .i64 (.ofNat 0)), (.int .i64 (.ofNat 0)), (.int .i64 (.ofNat 0)), .nils, (.int .i32 (.ofNat 0))]), (.bool false)])
  news := []
  hi := 1126

def ent148 : Ent where
  k := 179
  args := [(.agg [(.int .i64 (.ofNat 1)), (.sl 1000 0 1 1 true)]), (.int .i64 (.ofNat 0)), (.int .i64 (.ofNat 0)), (.int .i64 (.ofNat 26)), (.int .i64 (.ofNat 1))]
  need := [(1000, (.cells 140 6 [.nils, (.sl 1001 0 1 1 true), (.int .i64 (.ofNat 4)), (.sl 1002 0 1 1 true), .nils, (.int .i32 (.ofNat 0))] .leaf true false none)), (1001, (.cells 157 5 [(.int .i64 (.ofNat 2)), (.int .i64 (.ofNat 1)), (.int .i64 (.ofNat 0)), (.sl 1003 0 2 2 true), (.int .i32 (.ofNat 0))] .leaf true false none)), (1002, (.cells 3 1 [(.int .i64 (.ofNat 1))] .leaf true false none)), (1003, (.cells 3 2 [(.int .i64 (.ofNat 0)), (.int .i64 (.ofNat 0))] .leaf true false none))]
  n0 := 1004
  v := (.tup [.nils, (.agg [(.int .i64 (.ofNat 0)), (.int .i64 (.ofNat 0)), (.int .i64 (.ofNat 0)), .nils, (.int .i32 (.ofNat 0))]), (.bool false)])
  news := []
  hi := 1126

def ent149 : Ent where
  k := 179
  args := [(.agg [(.int .i64 (.ofNat 1)), (.sl 1000 0 1 1 true)]), (.int .i64 (.ofNat 0)), (.int .i64 (.ofNat 0)), (.int .i64 (.ofNat 27)), (.int .i64 (.ofNat 1))]
  need := [(1000, (.cells 140 6 [.nils, (.sl 1001 0 1 1 true), (.int .i64 (.ofNat 4)), (.sl 1002 0 1 1 true), .nils, (.int .i32 (.ofNat 0))] .leaf true false none)), (1001, (.cells 157 5 [(.int .i64 (.ofNat 2)), (.int .i64 (.ofNat 1)), (.int .i64 (.ofNat 0)), (.sl 1003 0 2 2 true), (.int .i32 (.ofNat 0))] .leaf true false none)), (1002, (.cells 3 1 [(.int .i64 (.ofNat 1))] .leaf true false none)), (1003, (.cells 3 2 [(.int .i64 (.ofNat 0)), (.int .i64 (.ofNat 0))] .leaf true false none))]
  n0 := 1004
  v := (.tup [.nils, (.agg [(.int .i64 (.ofNat 0)), (.int .i64 (.ofNat 0)), (.int .i64 (.ofNat 0)), .nils, (.int .i32 (.ofNat 0))]), (.bool false)])
  news := []
  hi := 1126

def ent150 : Ent where
  k := 179
  args := [(.agg [(.int .i64 (.ofNat 1)), (.sl 1000 0 1 1 true)]), (.int .i64 (.ofNat 0)), (.int .i64 (.ofNat 0)), (.int .i64 (.ofNat 28)), (.int .i64 (.ofNat 1))]
  need := [(1000, (.cells 140 6 [.nils, (.sl 1001 0 1 1 true), (.int .i64 (.ofNat 4)), (.sl 1002 0 1 1 true), .nils, (.int .i32 (.ofNat 0))] .leaf true false none)), (1001, (.cells 157 5 [(.int .i64 (.ofNat 2)), (.int .i64 (.ofNat 1)), (.int .i64 (.ofNat 0)), (.sl 1003 0 2 2 true), (.int .i32 (.ofNat 0))] .leaf true false none)), (1002, (.cells 3 1 [(.int .i64 (.ofNat 1))] .leaf true false none)), (1003, (.cells 3 2 [(.int .i64 (.ofNat 0)), (.int .i64 (.ofNat 0))] .leaf true false none))]
  n0 := 1004
  v := (.tup [.nils, (.agg [(.int .i64 (.ofNat 0)), (.int .i64 (.ofNat 0)), (.int .i64 (.ofNat 0)), .nils, (.int .i32 (.ofNat 0))]), (.bool false)])
  news := []
  hi := 1126

def ent151 : Ent where
  k := 179
  args := [(.agg [(.int .i64 (.ofNat 1)), (.sl 1000 0 1 1 true)]), (.int .i64 (.ofNat 0)), (.int .i64 (.ofNat 0)), (.int .i64 (.ofNat 29)), (.int .i64 (.ofNat 1))]
  need := [(1000, (.cells 140 6 [.nils, (.sl 1001 0 1 1 true), (.int .i64 (.ofNat 4)), (.sl 1002 0 1 1 true), .nils, (.int .i32 (.ofNat 0))] .leaf true false none)), (1001, (.cells 157 5 [(.int .i64 (.ofNat 2)), (.int .i64 (.ofNat 1)), (.int .i64 (.ofNat 0)), (.sl 1003 0 2 2 true), (.int .i32 (.ofNat 0))] .leaf true false none)), (1002, (.cells 3 1 [(.int .i64 (.ofNat 1))] .leaf true false none)), (1003, (.cells 3 2 [(.int .i64 (.ofNat 0)), (.int .i64 (.ofNat 0))] .leaf true false none))]
  n0 := 1004
  v := (.tup [.nils, (.agg [(.int .i64 (.ofNat 0)), (.int .i64 (.ofNat 0)), (.int .i64 (.ofNat 0)), .nils, (.int .i32 (.ofNat 0))]), (.bool false)])
  news := []
  hi := 1126

def ent152 : Ent where
  k := 179
  args := [(.agg [(.int .i64 (.ofNat 1)), (.sl 1000 0 1 1 true)]), (.int .i64 (.ofNat 0)), (.int .i64 (.ofNat 0)), (.int .i64 (.ofNat 30)), (.int .i64 (.ofNat 1))]
  need := [(1000, (.cells 140 6 [.nils, (.sl 1001 0 1 1 true), (.int .i64 (.ofNat 4)), (.sl 1002 0 1 1 true), .nils, (.int .i32 (.ofNat 0))] .leaf true false none)), (1001, (.cells 157 5 [(.int .i64 (.ofNat 2)), (.int .i64 (.ofNat 1)), (.int .i64 (.ofNat 0)), (.sl 1003 0 2 2 true), (.int .i32 (.ofNat 0))] .leaf true false none)), (1002, (.cells 3 1 [(.int .i64 (.ofNat 1))] .leaf true false none)), (1003, (.cells 3 2 [(.int .i64 (.ofNat 0)), (.int .i64 (.ofNat 0))] .leaf true false none))]
  n0 := 1004
  v := (.tup [.nils, (.agg [(.int .i64 (.ofNat 0)), (.int .i64 (.ofNat 0)), (.int .i64 (.ofNat 0)), .nils, (.int .i32 (.ofNat 0))]), (.bool false)])
  news := []
  hi := 1126

def ent153 : Ent where
  k := 179
  args := [(.agg [(.int .i64 (.ofNat 1)), (.sl 1000 0 1 1 true)]), (.int .i64 (.ofNat 0)), (.int .i64 (.ofNat 0)), (.int .i64 (.ofNat 31)), (.int .i64 (.ofNat 1))]
  need := [(1000, (.cells 140 6 [.nils, (.sl 1001 0 1 1 true), (.int .i64 (.ofNat 4)), (.sl 1002 0 1 1 true), .nils, (.int .i32 (.ofNat 0))] .leaf true false none)), (1001, (.cells 157 5 [(.int .i64 (.ofNat 2)), (.int .i64 (.ofNat 1)), (.int .i64 (.ofNat 0)), (.sl 1003 0 2 2 true), (.int .i32 (.ofNat 0))] .leaf true false none)), (1002, (.cells 3 1 [(.int .i64 (.ofNat 1))] .leaf true false none)), (1003, (.cells 3 2 [(.int .i64 (.ofNat 0)), (.int .i64 (.ofNat 0))] .leaf true false none))]
  n0 := 1004
  v := (.tup [.nils, (.agg [(.int .i64 (.ofNat 0)), (.int .i64 (.ofNat 0)), (.int .i64 (.ofNat 0)), .nils, (.int .i32 (.ofNat 0))]), (.bool false)])
  news := []
  hi := 1126

def ent154 : Ent where
  k := 179
  args := [(.agg [(.int .i64 (.ofNat 1)), (.sl 1000 0 1 1 true)]), (.int .i64 (.ofNat 0)), (.int .i64 (.ofNat 0)), (.int .i64 (.ofNat 32)), (.int .i64 (.ofNat 1))]
  need := [(1000, (.cells 140 6 [.nils, (.sl 1001 0 1 1 true), (.int .i64 (.ofNat 4)), (.sl 1002 0 1 1 true), .nils, (.int .i32 (.ofNat 0))] .leaf true false none)), (1001, (.cells 157 5 [(.int .i64 (.ofNat 2)), (.int .i64 (.ofNat 1)), (.int .i64 (.ofNat 0)), (.sl 1003 0 2 2 true), (.int .i32 (.ofNat 0))] .leaf true false none)), (1002, (.cells 3 1 [(.int .i64 (.ofNat 1))] .leaf true false none)), (1003, (.cells 3 2 [(.int .i64 (.ofNat 0)), (.int .i64 (.ofNat 0))] .leaf true false none))]
  n0 := 1004
  v := (.tup [.nils, (.agg [(.int .i64 (.ofNat 0)), (.int .i64 (.ofNat 0)), (.int .i64 (.ofNat 0)), .nils, (.int .i32 (.ofNat 0))]), (.bool false)])
  news := []
  hi := 1126

def ent155 : Ent where
  k := 179
  args := [(.agg [(.int .i64 (.ofNat 1)), (.sl 1000 0 1 1 true)]), (.int .i64 (.ofNat 0)), (.int .i64 (.ofNat 0)), (.int .i64 (.ofNat 33)), (.int .i64 (.ofNat 1))]
  need := [(1000, (.cells 140 6 [.nils, (.sl 1001 0 1 1 true), (.int .i64 (.ofNat 4)), (.sl 1002 0 1 1 true), .nils, (.int .i32 (.ofNat 0))] .leaf true false none)), (1001, (.cells 157 5 [(.int .i64 (.ofNat 2)), (.int .i64 (.ofNat 1)), (.int .i64 (.ofNat 0)), (.sl 1003 0 2 2 true), (.int .i32 (.ofNat 0))] .leaf true false none)), (1002, (.cells 3 1 [(.int .i64 (.ofNat 1))] .leaf true false none)), (1003, (.cells 3 2 [(.int .i64 (.ofNat 0)), (.int .i64 (.ofNat 0))] .leaf true false none))]
  n0 := 1004
  v := (.tup [.nils, (.agg [(.int .i64 (.ofNat 0)), (.int .i64 (.ofNat 0)), (.int .i64 (.ofNat 0)), .nils, (.int .i32 (.ofNat 0))]), (.bool false)])
  news := []
  hi := 1125

def ent156 : Ent where
  k := 179
  args := [(.agg [(.int .i64 (.ofNat 1)), (.sl 1000 0 1 1 true)]), (.int .i64 (.ofNat 0)), (.int .i64 (.ofNat 0)), (.int .i64 (.ofNat 34)), (.int .i64 (.ofNat 1))]
  need := [(1000, (.cells 140 6 [.nils, (.sl 1001 0 1 1 true), (.int .i64 (.ofNat 4)), (.sl 1002 0 1 1 true), .nils, (.int .i32 (.ofNat 0))] .leaf true false none)), (1001, (.cells 157 5 [(.int .i64 (.ofNat 2)), (.int .i64 (.ofNat 1)), (.int .i64 (.ofNat 0)), (.sl 1003 0 2 2 true), (.int .i32 (.ofNat 0))] .leaf true false none)), (1002, (.cells 3 1 [(.int .i64 (.ofNat 1))] .leaf true false none)), (1003, (.cells 3 2 [(.int .i64 (.ofNat 0)), (.int .i64 (.ofNat 0))] .leaf true false none))]
  n0 := 1004
  v := (.tup [.nils, (.agg [(.int .i64 (.ofNat 0)), (.int .i64 (.ofNat 0)), (.int .i64 (.ofNat 0)), .nils, (.int .i32 (.ofNat 0))]), (.bool false)])
  news := []
  hi := 1125

def ent157 : Ent where
  k := 179
  args := [(.agg [(.int .i64 (.ofNat 1)), (.sl 1000 0 1 1 true)]), (.int .i64 (.ofNat 0)), (.int .i64 (.ofNat 0)), (.int .i64 (.ofNat 35)), (.int .i64 (.ofNat 1))]
  need := [(1000, (.cells 140 6 [.nils, (.sl 1001 0 1 1 true), (.int .i64 (.ofNat 4)), (.sl 1002 0 1 1 true), .nils, (.int .i32 (.ofNat 0))] .leaf true false none)), (1001, (.cells 157 5 [(.int .i64 (.ofNat 2)), (.int .i64 (.ofNat 1)), (.int .i64 (.ofNat 0)), (.sl 1003 0 2 2 true), (.int .i32 (.ofNat 0))] .leaf true false none)), (1002, (.cells 3 1 [(.int .i64 (.ofNat 1))] .leaf true false none)), (1003, (.cells 3 2 [(.int .i64 (.ofNat 0)), (.int .i64 (.ofNat 0))] .leaf true false none))]
  n0 := 1004
  v := (.tup [.nils, (.agg [(.int .i64 (.ofNat 0)), (.int .i64 (.ofNat 0)), (.int .i64 (.ofNat 0)), .nils, (.int .i32 (.ofNat 0))]), (.bool false)])
  news := []
  hi := 1125

def ent158 : Ent where
  k := 179
  args := [(.agg [(.int .i64 (.ofNat 1)), (.sl 1000 0 1 1 true)]), (.int .i64 (.ofNat 0)), (.int .i64 (.ofNat 0)), (.int .i64 (.ofNat 36)), (.int .i64 (.ofNat 1))]
  need := [(1000, (.cells 140 6 [.nils, (.sl 1001 0 1 1 true), (.int .i64 (.ofNat 4)), (.sl 1002 0 1 1 true), .nils, (.int .i32 (.ofNat 0))] .leaf true false none)), (1001, (.cells 157 5 [(.int .i64 (.ofNat 2)), (.int .i64 (.ofNat 1)), (.int .i64 (.ofNat 0)), (.sl 1003 0 2 2 true), (.int .i32 (.ofNat 0))] .leaf true false none)), (1002, (.cells 3 1 [(.int .i64 (.ofNat 1))] .leaf true false none)), (1003, (.cells 3 2 [(.int .i64 (.ofNat 0)), (.int .i64 (.ofNat 0))] .leaf true false none))]
  n0 := 1004
  v := (.tup [.nils, (.agg [(.int .i64 (.ofNat 0)), (.int .i64 (.ofNat 0)), (.int .i64 (.ofNat 0)), .nils, (.int .i32 (.ofNat 0))]), (.bool false)])
  news := []
  hi := 1125

def ent159 : Ent where
  k := 179
  args := [(.agg [(.int .i64 (.ofNat 1)), (.sl 1000 0 1 1 true)]), (.int .i64 (.ofNat 0)), (.int .i64 (.ofNat 0)), (.int .i64 (.ofNat 37)), (.int .i64 (.ofNat 1))]
  need := [(1000, (.cells 140 6 [.nils, (.sl 1001 0 1 1 true), (.int .i64 (.ofNat 4)), (.sl 1002 0 1 1 true), .nils, (.int .i32 (.ofNat 0))] .leaf true false none)), (1001, (.cells 157 5 [(.int .i64 (.ofNat 2)), (.int .i64 (.ofNat 1)), (.int .i64 (.ofNat 0)), (.sl 1003 0 2 2 true), (.int .i32 (.ofNat 0))] .leaf true false none)), (1002, (.cells 3 1 [(.int .i64 (.ofNat 1))] .leaf true false none)), (1003, (.cells 3 2 [(.int .i64 (.ofNat 0)), (.int .i64 (.ofNat 0))] .leaf true false none))]
  n0 := 1004
  v := (.tup [.nils, (.agg [(.int .i64 (.ofNat 0)), (.int .i64 (.ofNat 0)), (.int .i64 (.ofNat 0)), .nils, (.int .i32 (.ofNat 0))]), (.bool false)])
  news := []
  hi := 1125

def ent160 : Ent where
  k := 337
  args := [(.ptr 1000 0), (.agg [(.int .i64 (.ofNat 0)), (.int .i64 (.ofNat 0))]), (.sl 1001 0 1 1 true)]
  need := [(1000, (.cells 352 5 [(.int .i64 (.ofNat 1)), (.sl 1002 0 1 1 true), (.sl 1003 0 37 37 true), (.map 1004), (.map 1005)] .leaf false false none)), (1001, (.cells 183 8 [(.int .i64 (.ofNat 5)), (.int .i64 (.ofNat 1)), (.int .i64 (.ofNat 0)), (.int .i64 (.ofNat 0)), (.int .i64 (.ofNat 0)), (.int .i64 (.ofNat 0)), (.int .i32 (.ofNat 0)), .nils] .leaf true false none)), (1002, (.cells 140 6 [.nils, (.sl 1006 0 1 1 true), (.int .i64 (.ofNat 4)), (.sl 1007 0 1 1 true), .nils, (.int .i32 (.ofNat 0))] .leaf true false none)), (1003, (.cells 69 74 [(.int .i64 (.ofNat 1)), (.int .i64 (.ofNat 1)), (.int .i64 (.ofNat 2)), (.int .i64 (.ofNat 2)), (.int .i64 (.ofNat 3)), (.int .i64 (.ofNat 1)), (.int .i64 (.ofNat 4)), (.int .i64 (.ofNat 1)), (.int .i64 (.ofNat 5)), (.int .i64 (.ofNat 3)), (.int .i64 (.ofNat 6)), (.int .i64 (.ofNat 1)), (.int .i64 (.ofNat 7)), (.int .i64 (.ofNat 1)), (.int .i64 (.ofNat 8)), (.int .i64 (.ofNat 1)), (.int .i64 (.ofNat 9)), (.int .i64 (.ofNat 1)), (.int .i64 (.ofNat 10)), (.int .i64 (.ofNat 1)), (.int .i64 (.ofNat 11)), (.int .i64 (.ofNat 1)), (.int .i64 (.ofNat 12)), (.int .i64 (.ofNat 1)), (.int .i64 (.ofNat 13)), (.int .i64 (.ofNat 1)), (.int .i64 (.ofNat 14)), (.int .i64 (.ofNat 1)), (.int .i64 (.ofNat 15)), (.int .i64 (.ofNat 12)), (.int .i64 (.ofNat 16)), (.int .i64 (.ofNat 1)), (.int .i64 (.ofNat 17)), (.int .i64 (.ofNat 1)), (.int .i64 (.ofNat 18)), (.int .i64 (.ofNat 1)), (.int .i64 (.ofNat 19)), (.int .i64 (.ofNat 1)), (.int .i64 (.ofNat 20)), (.int .i64 (.ofNat 1)), (.int .i64 (.ofNat 21)), (.int .i64 (.ofNat 1)), (.int .i64 (.ofNat 22)), (.int .i64 (.ofNat 3)), (.int .i64 (.ofNat 23)), (.int .i64 (.ofNat 2)), (.int .i64 (.ofNat 24)), (.int .i64 (.ofNat 2)), (.int .i64 (.ofNat 25)), (.int .i64 (.ofNat 2)), (.int .i64 (.ofNat 26)), (.int .i64 (.ofNat 4)), (.int .i64 (.ofNat 27)), (.int .i64 (.ofNat 1)), (.int .i64 (.ofNat 28)), (.int .i64 (.ofNat 1)), (.int .i64 (.ofNat 29)), (.int .i64 (.ofNat 1)), (.int .i64 (.ofNat 30)), (.int .i64 (.ofNat 3)), (.int .i64 (.ofNat 31)), (.int .i64 (.ofNat 6)), (.int .i64 (.ofNat 32)), (.int .i64 (.ofNat 4)), (.int .i64 (.ofNat 33)), (.int .i64 (.ofNat 1)), (.int .i64 (.ofNat 34)), (.int .i64 (.ofNat 1)), (.int .i64 (.ofNat 35)), (.int .i64 (.ofNat 1)), (.int .i64 (.ofNat 36)), (.int .i64 (.ofNat 1)), (.int .i64 (.ofNat 37)), (.int .i64 (.ofNat 2))] .leaf true false none)), (1004, (.map [⟨(.int .i64 (.ofNat 1)), (.agg [(.int .i64 (.ofNat 0)), (.int .i64 (.ofNat 0))]), 0⟩] 1)), (1005, (.map [⟨(.int .i64 (.ofNat 0)), (.int .i64 (.ofNat 0)), 0⟩, ⟨(.int .i64 (.ofNat 1)), (.int .i64 (.ofNat 1)), 1⟩, ⟨(.int .i64 (.ofNat 2)), (.int .i64 (.ofNat 2)), 2⟩, ⟨(.int .i64 (.ofNat 3)), (.int .i64 (.ofNat 1)), 3⟩, ⟨(.int .i64 (.ofNat 4)), (.int .i64 (.ofNat 1)), 4⟩, ⟨(.int .i64 (.ofNat 5)), (.int .i64 (.ofNat 3)), 5⟩, ⟨(.int .i64 (.ofNat 6)), (.int .i64 (.ofNat 1)), 6⟩, ⟨(.int .i64 (.ofNat 7)), (.int .i64 (.ofNat 1)), 7⟩, ⟨(.int .i64 (.ofNat 8)), (.int .i64 (.ofNat 1)), 8⟩, ⟨(.int .i64 (.ofNat 9)), (.int .i64 (.ofNat 1)), 9⟩, ⟨(.int .i64 (.ofNat 10)), (.int .i64 (.ofNat 1)), 10⟩, ⟨(.int .i64 (.ofNat 11)), (.int .i64 (.ofNat 1)), 11⟩, ⟨(.int .i64 (.ofNat 12)), (.int .i64 (.ofNat 1)), 12⟩, ⟨(.int .i64 (.ofNat 13)), (.int .i64 (.ofNat 1)), 13⟩, ⟨(.int .i64 (.ofNat 14)), (.int .i64 (.ofNat 1)), 14⟩, ⟨(.int .i64 (.ofNat 15)), (.int .i64 (.ofNat 12)), 15⟩, ⟨(.int .i64 (.ofNat 16)), (.int .i64 (.ofNat 1)), 16⟩, ⟨(.int .i64 (.ofNat 17)), (.int .i64 (.ofNat 1)), 17⟩, ⟨(.int .i64 (.ofNat 18)), (.int .i64 (.ofNat 1)), 18⟩, ⟨(.int .i64 (.ofNat 19)), (.int .i64 (.ofNat 1)), 19⟩, ⟨(.int .i64 (.ofNat 20)), (.int .i64 (.ofNat 1)), 20⟩, ⟨(.int .i64 (.ofNat 21)), (.int .i64 (.ofNat 1)), 21⟩, ⟨(.int .i64 (.ofNat 22)), (.int .i64 (.ofNat 3)), 22⟩, ⟨(.int .i64 (.ofNat 23)), (.int .i64 (.ofNat 2)), 23⟩, ⟨(.int .i64 (.ofNat 24)), (.int .i64 (.ofNat 2)), 24⟩, ⟨(.int .i64 (.ofNat 25)), (.int .i64 (.ofNat 2)), 25⟩, ⟨(.int .i64 (.ofNat 26)), (.int .i64 (.ofNat 4)), 26⟩, ⟨(.int .i64 (.ofNat 27)), (.int .i64 (.ofNat 1)), 27⟩, ⟨(.int .i64 (.ofNat 28)), (.int .i64 (.ofNat 1)), 28⟩, ⟨(.int .i64 (.ofNat 29)), (.int .i64 (.ofNat 1)), 29⟩, ⟨(.int .i64 (.ofNat 30)), (.int .i64 (.ofNat 3)), 30⟩, ⟨(.int .i64 (.ofNat 31)), (.int .i64 (.ofNat 6)), 31⟩, ⟨(.int .i64 (.ofNat 32)), (.int .i64 (.ofNat 4)), 32⟩, ⟨(.int .i64 (.ofNat 33)), (.int .i64 (.ofNat 1)), 33⟩, ⟨(.int .i64 (.ofNat 34)), (.int .i64 (.ofNat 1)), 34⟩, ⟨(.int .i64 (.ofNat 35)), (.int .i64 (.ofNat 1)), 35⟩, ⟨(.int .i64 (.ofNat 36)), (.int .i64 (.ofNat 1)), 36⟩, ⟨(.int .i64 (.ofNat 37)), (.int .i64 (.ofNat 2)), 37⟩] 38)), (1006, (.cells 157 5 [(.int .i64 (.ofNat 2)), (.int .i64 (.ofNat 1)), (.int .i64 (.ofNat 0)), (.sl 1008 0 2 2 true), (.int .i32 (.ofNat 0))] .leaf true false none)), (1007, (.cells 3 1 [(.int .i64 (.ofNat 1))] .leaf true false none)), (1008, (.cells 3 2 [(.int .i64 (.ofNat 0)), (.int .i64 (.ofNat 0))] .leaf true false none))]
  n0 := 1009
  v := (.tup [(.int .i64 (.ofNat 3)), (.int .i64 (.ofNat 1)), (.int .i64 (.negSucc 0)), (.bool true)])
  news := []
  hi := 1146

def ent161 : Ent where
  k := 179
  args := [(.agg [(.int .i64 (.ofNat 1)), (.sl 1000 0 1 1 true)]), (.int .i64 (.ofNat 0)), (.int .i64 (.ofNat 1)), (.int .i64 (.ofNat 0)), (.int .i64 (.ofNat 0))]
  need := [(1000, (.cells 140 6 [.nils, (.sl 1001 0 1 1 true), (.int .i64 (.ofNat 4)), (.sl 1002 0 1 1 true), .nils, (.int .i32 (.ofNat 0))] .leaf true false none)), (1001, (.cells 157 5 [(.int .i64 (.ofNat 2)), (.int .i64 (.ofNat 1)), (.int .i64 (.ofNat 0)), (.sl 1003 0 2 2 true), (.int .i32 (.ofNat 0))] .leaf true false none)), (1002, (.cells 3 1 [(.int .i64 (.ofNat 1))] .leaf true false none)), (1003, (.cells 3 2 [(.int .i64 (.ofNat 0)), (.int .i64 (.ofNat 0))] .leaf true false none))]
  n0 := 1004
  v := (.tup [.nils, (.agg [(.int .i64 (.ofNat 7)), (.int .i64 (.ofNat 1)), (.int .i64 (.ofNat 0)), .nils, (.int .i32 (.ofNat 0))]), (.bool true)])
  news := []
  hi := 1072

def ent162 : Ent where
  k := 179
  args := [(.agg [(.int .i64 (.ofNat 1)), (.sl 1000 0 1 1 true)]), (.int .i64 (.ofNat 0)), (.int .i64 (.ofNat 1)), (.int .i64 (.ofNat 1)), (.int .i64 (.ofNat 0))]
  need := [(1000, (.cells 140 6 [.nils, (.sl 1001 0 1 1 true), (.int .i64 (.ofNat 4)), (.sl 1002 0 1 1 true), .nils, (.int .i32 (.ofNat 0))] .leaf true false none)), (1001, (.cells 157 5 [(.int .i64 (.ofNat 2)), (.int .i64 (.ofNat 1)), (.int .i64 (.ofNat 0)), (.sl 1003 0 2 2 true), (.int .i32 (.ofNat 0))] .leaf true false none)), (1002, (.cells 3 1 [(.int .i64 (.ofNat 1))] .leaf true false none)), (1003, (.cells 3 2 [(.int .i64 (.ofNat 0)), (.int .i64 (.ofNat 0))] .leaf true false none))]
  n0 := 1004
  v := (.tup [.nils, (.agg [(.int .i64 (.ofNat 0)), (.int .i64 (.ofNat 0)), (.int .i64 (.ofNat 0)), .nils, (.int .i32 (.ofNat 0))]), (.bool false)])
  news := []
  hi := 1069

def ent163 : Ent where
  k := 179
  args := [(.agg [(.int .i64 (.ofNat 1)), (.sl 1000 0 1 1 true)]), (.int .i64 (.ofNat 0)), (.int .i64 (.ofNat 1)), (.int .i64 (.ofNat 2)), (.int .i64 (.ofNat 0))]
  need := [(1000, (.cells 140 6 [.nils, (.sl 1001 0 1 1 true), (.int .i64 (.ofNat 4)), (.sl 1002 0 1 1 true), .nils, (.int .i32 (.ofNat 0))] .leaf true false none)), (1001, (.cells 157 5 [(.int .i64 (.ofNat 2)), (.int .i64 (.ofNat 1)), (.int .i64 (.ofNat 0)), (.sl 1003 0 2 2 true), (.int .i32 (.ofNat 0))] .leaf true false none)), (1002, (.cells 3 1 [(.int .i64 (.ofNat 1))] .leaf true false none)), (1003, (.cells 3 2 [(.int .i64 (.ofNat 0)), (.int .i64 (.ofNat 0))] .leaf true false none))]
  n0 := 1004
  v := (.tup [.nils, (.agg [(.int .i64 (.ofNat 0)), (.int .i64 (.ofNat 0)), (.int .i64 (.ofNat 0)), .nils, (.int .i32 (.ofNat 0))]), (.bool false)])
  news := []
  hi := 1069

def ent164 : Ent where
  k := 179
  args := [(.agg [(.int .i64 (.ofNat 1)), (.sl 1000 0 1 1 true)]), (.int .i64 (.ofNat 0)), (.int .i64 (.ofNat 1)), (.int .i64 (.ofNat 3)), (.int .i64 (.ofNat 0))]
  need := [(1000, (.cells 140 6 [.nils, (.sl 1001 0 1 1 true), (.int .i64 (.ofNat 4)), (.sl 1002 0 1 1 true), .nils, (.int .i32 (.ofNat 0))] .leaf true false none)), (1001, (.cells 157 5 [(.int .i64 (.ofNat 2)), (.int .i64 (.ofNat 1)), (.int .i64 (.ofNat 0)), (.sl 1003 0 2 2 true), (.int .i32 (.ofNat 0))] .leaf true false none)), (1002, (.cells 3 1 [(.int .i64 (.ofNat 1))] .leaf true false none)), (1003, (.cells 3 2 [(.int .i64 (.ofNat 0)), (.int .i64 (.ofNat 0))] .leaf true false none))]
  n0 := 1004
  v := (.tup [.nils, (.agg [(.int .i64 (.ofNat 0)), (.int .i64 (.ofNat 0)), (.int .i64 (.ofNat 0)), .nils, (.int .i32 (.ofNat 0))]), (.bool false)])
  news := []
  hi := 1069

def ent165 : Ent where
  k := 179
  args := [(.agg [(.int .i64 (.ofNat 1)), (.sl 1000 0 1 1 true)]), (.int .i64 (.ofNat 0)), (.int .i64 (.ofNat 1)), (.int .i64 (.ofNat 4)), (.int .i64 (.ofNat 0))]
  need := [(1000, (.cells 140 6 [.nils, (.sl 1001 0 1 1 true), (.int .i64 (.ofNat 4)), (.sl 1002 0 1 1 true), .nils, (.int .i32 (.ofNat 0))] .leaf true false none)), (1001, (.cells 157 5 [(.int .i64 (.ofNat 2)), (.int .i64 (.ofNat 1)), (.int .i64 (.ofNat 0)), (.sl 1003 0 2 2 true), (.int .i32 (.ofNat 0))] .leaf true false none)), (1002, (.cells 3 1 [(.int .i64 (.ofNat 1))] .leaf true false none)), (1003, (.cells 3 2 [(.int .i64 (.ofNat 0)), (.int .i64 (.ofNat 0))] .leaf true false none))]
  n0 := 1004
  v := (.tup [.nils, (.agg [(.int .i64 (.ofNat 0)), (.int .i64 (.ofNat 0)), (.int .i64 (.ofNat 0)), .nils, (.int .i32 (.ofNat 0))]), (.bool false)])
  news := []
  hi := 1069

def ent166 : Ent where
  k := 179
  args := [(.agg [(.int .i64 (.ofNat 1)), (.sl 1000 0 1 1 true)]), (.int .i64 (.ofNat 0)), (.int .i64 (.ofNat 1)), (.int .i64 (.ofNat 5)), (.int .i64 (.ofNat 0))]
  need := [(1000, (.cells 140 6 [.nils, (.sl 1001 0 1 1 true), (.int .i64 (.ofNat 4)), (.sl 1002 0 1 1 true), .nils, (.int .i32 (.ofNat 0))] .leaf true false none)), (1001, (.cells 157 5 [(.int .i64 (.ofNat 2)), (.int .i64 (.ofNat 1)), (.int .i64 (.ofNat 0)), (.sl 1003 0 2 2 true), (.int .i32 (.ofNat 0))] .leaf true false none)), (1002, (.cells 3 1 [(.int .i64 (.ofNat 1))] .leaf true false none)), (1003, (.cells 3 2 [(.int .i64 (.ofNat 0)), (.int .i64 (.ofNat 0))] .leaf true false none))]
  n0 := 1004
  v := (.tup [.nils, (.agg [(.int .i64 (.ofNat 0)), (.int .i64 (.ofNat 0)), (.int .i64 (.ofNat 0)), .nils, (.int .i32 (.ofNat 0))]), (.bool false)])
  news := []
  hi := 1069

def ent167 : Ent where
  k := 179
  args := [(.agg [(.int .i64 (.ofNat 1)), (.sl 1000 0 1 1 true)]), (.int .i64 (.ofNat 0)), (.int .i64 (.ofNat 1)), (.int .i64 (.ofNat 6)), (.int .i64 (.ofNat 0))]
  need := [(1000, (.cells 140 6 [.nils, (.sl 1001 0 1 1 true), (.int .i64 (.ofNat 4)), (.sl 1002 0 1 1 true), .nils, (.int .i32 (.ofNat 0))] .leaf true false none)), (1001, (.cells 157 5 [(.int .i64 (.ofNat 2)), (.int .i64 (.ofNat 1)), (.int .i64 (.ofNat 0)), (.sl 1003 0 2 2 true), (.int .i32 (.ofNat 0))] .leaf true false none)), (1002, (.cells 3 1 [(.int .i64 (.ofNat 1))] .leaf true false none)), (1003, (.cells 3 2 [(.int .i64 (.ofNat 0)), (.int .i64 (.ofNat 0))] .leaf true false none))]
  n0 := 1004
  v := (.tup [.nils, (.agg [(.int .i64 (.ofNat 0)), (.int .i64 (.ofNat 0)), (.int .i64 (.ofNat 0)), .nils, (.int .i32 (.ofNat 0))]), (.bool false)])
  news := []
  hi := 1069

def ent168 : Ent where
  k := 179
  args := [(.agg [(.int .i64 (.ofNat 1)), (.sl 1000 0 1 1 true)]), (.int .i64 (.ofNat 0)), (.int .i64 (.ofNat 1)), (.int .i64 (.ofNat 7)), (.int .i64 (.ofNat 0))]
  need := [(1000, (.cells 140 6 [.nils, (.sl 1001 0 1 1 true), (.int .i64 (.ofNat 4)), (.sl 1002 0 1 1 true), .nils, (.int .i32 (.ofNat 0))] .leaf true false none)), (1001, (.cells 157 5 [(.int .i64 (.ofNat 2)), (.int .i64 (.ofNat 1)), (.int .i64 (.ofNat 0)), (.sl 1003 0 2 2 true), (.int .i32 (.ofNat 0))] .leaf true false none)), (1002, (.cells 3 1 [(.int .i64 (.ofNat 1))] .leaf true false none)), (1003, (.cells 3 2 [(.int .i64 (.ofNat 0)), (.int .i64 (.ofNat 0))] .leaf true false none))]
  n0 := 1004
  v := (.tup [.nils, (.agg [(.int .i64 (.ofNat 0)), (.int .i64 (.ofNat 0)), (.int .i64 (.ofNat 0)), .nils, (.int .i32 (.ofNat 0))]), (.bool false)])
  news := []
  hi := 1069

def ent169 : Ent where
  k := 179
  args := [(.agg [(.int .i64 (.ofNat 1)), (.sl 1000 0 1 1 true)]), (.int .i64 (.ofNat 0)), (.int .i64 (.ofNat 1)), (.int .i64 (.ofNat 8)), (.int .i64 (.ofNat 0))]
  need := [(1000, (.cells 140 6 [.nils, (.sl 1001 0 1 1 true), (.int .i64 (.ofNat 4)), (.sl 1002 0 1 1 true), .nils, (.int .i32 (.ofNat 0))] .leaf true false none)), (1001, (.cells 157 5 [(.int .i64 (.ofNat 2)), (.int .i64 (.ofNat 1)), (.int .i64 (.ofNat 0)), (.sl 1003 0 2 2 true), (.int .i32 (.ofNat 0))] .leaf true false none)), (1002, (.cells 3 1 [(.int .i64 (.ofNat 1))] .leaf true false none)), (1003, (.cells 3 2 [(.int .i64 (.ofNat 0)), (.int .i64 (.ofNat 0))] .leaf true false none))]
  n0 := 1004
  v := (.tup [.nils, (.agg [(.int .i64 (.ofNat 0)), (.int .i64 (.ofNat 0)), (.int .i64 (.ofNat 0)), .nils, (.int .i32 (.ofNat 0))]), (.bool false)])
  news := []
  hi := 1069

def ent170 : Ent where
  k := 179
  args := [(.agg [(.int .i64 (.ofNat 1)), (.sl 1000 0 1 1 true)]), (.int .i64 (.ofNat 0)), (.int .i64 (.ofNat 1)), (.int .i64 (.ofNat 9)), (.int .i64 (.ofNat 0))]
  need := [(1000, (.cells 140 6 [.nils, (.sl 1001 0 1 1 true), (.int .i64 (.ofNat 4)), (.sl 1002 0 1 1 true), .nils, (.int .i32 (.ofNat 0))] .leaf true false none)), (1001, (.cells 157 5 [(.int .i64 (.ofNat 2)), (.int .i64 (.ofNat 1)), (.int .i64 (.ofNat 0)), (.sl 1003 0 2 2 true), (.int .i32 (.ofNat 0))] .leaf true false none)), (1002, (.cells 3 1 [(.int .i64 (.ofNat 1))] .leaf true false none)), (1003, (.cells 3 2 [(.int .i64 (.ofNat 0)), (.int .i64 (.ofNat 0))] .leaf true false none))]
  n0 := 1004
  v := (.tup [.nils, (.agg [(.int .i64 (.ofNat 0)), (.int .i64 (.ofNat 0)), (.int .i64 (.ofNat 0)), .nils, (.int .i32 (.ofNat 0))]), (.bool false)])
  news := []
  hi := 1069

def ent171 : Ent where
  k := 179
  args := [(.agg [(.int .i64 (.ofNat 1)), (.sl 1000 0 1 1 true)]), (.int .i64 (.ofNat 0)), (.int .i64 (.ofNat 1)), (.int .i64 (.ofNat 10)), (.int .i64 (.ofNat 0))]
  need := [(1000, (.cells 140 6 [.nils, (.sl 1001 0 1 1 true), (.int .i64 (.ofNat 4)), (.sl 1002 0 1 1 true), .nils, (.int .i32 (.ofNat 0))] .leaf true false none)), (1001, (.cells 157 5 [(.int .i64 (.ofNat 2)), (.int .i64 (.ofNat 1)), (.int .i64 (.ofNat 0)), (.sl 1003 0 2 2 true), (.int .i32 (.ofNat 0))] .leaf true false none)), (1002, (.cells 3 1 [(.int .i64 (.ofNat 1))] .leaf true false none)), (1003, (.cells 3 2 [(.int .i64 (.ofNat 0)), (.int .i64 (.ofNat 0))] .leaf true false none))]
  n0 := 1004
  v := (.tup [.nils, (.agg [(.int .i64 (.ofNat 0)), (.int .i64 (.ofNat 0)), (.int .i64 (.ofNat 0)), .nils, (.int .i32 (.ofNat 0))]), (.bool false)])
  news := []
  hi := 1069

def ent172 : Ent where
  k := 179
  args := [(.agg [(.int .i64 (.ofNat 1)), (.sl 1000 0 1 1 true)]), (.int .i64 (.ofNat 0)), (.int .i64 (.ofNat 1)), (.int .i64 (.ofNat 11)), (.int .i64 (.ofNat 0))]
  need := [(1000, (.cells 140 6 [.nils, (.sl 1001 0 1 1 true), (.int .i64 (.ofNat 4)), (.sl 1002 0 1 1 true), .nils, (.int .i32 (.ofNat 0))] .leaf true false none)), (1001, (.cells 157 5 [(.int .i64 (.ofNat 2)), (.int .i64 (.ofNat 1)), (.int .i64 (.ofNat 0)), (.sl 1003 0 2 2 true), (.int .i32 (.ofNat 0))] .leaf true false none)), (1002, (.cells 3 1 [(.int .i64 (.ofNat 1))] .leaf true false none)), (1003, (.cells 3 2 [(.int .i64 (.ofNat 0)), (.int .i64 (.ofNat 0))] .leaf true false none))]
  n0 := 1004
  v := (.tup [.nils, (.agg [(.int .i64 (.ofNat 0)), (.int .i64 (.ofNat 0)), (.int .i64 (.ofNat 0)), .nils, (.int .i32 (.ofNat 0))]), (.bool false)])
  news := []
  hi := 1069

def ent173 : Ent where
  k := 179
  args := [(.agg [(.int .i64 (.ofNat 1)), (.sl 1000 0 1 1 true)]), (.int .i64 (.ofNat 0)), (.int .i64 (.ofNat 1)), (.int .i64 (.ofNat 12)), (.int .i64 (.ofNat 0))]
  need := [(1000, (.cells 140 6 [.nils, (.sl 1001 0 1 1 true), (.int .i64 (.ofNat 4)), (.sl 1002 0 1 1 true), .nils, (.int .i32 (.ofNat 0))] .leaf true false none)), (1001, (.cells 157 5 [(.int .i64 (.ofNat 2)), (.int .i64 (.ofNat 1)), (.int .i64 (.ofNat 0)), (.sl 1003 0 2 2 true), (.int .i32 (.ofNat 0))] .leaf true false none)), (1002, (.cells 3 1 [(.int .i64 (.ofNat 1))] .leaf true false none)), (1003, (.cells 3 2 [(.int .i64 (.ofNat 0)), (.int .i64 (.ofNat 0))] .leaf true false none))]
  n0 := 1004
  v := (.tup [.nils, (.agg [(.int .i64 (.ofNat 0)), (.int .i64 (.ofNat 0)), (.int .i64 (.ofNat 0)), .nils, (.int .i32 (.ofNat 0))]), (.bool false)])
  news := []
  hi := 1069

def ent174 : Ent where
  k := 179
  args := [(.agg [(.int .i64 (.ofNat 1)), (.sl 1000 0 1 1 true)]), (.int .i64 (.ofNat 0)), (.int .i64 (.ofNat 1)), (.int .i64 (.ofNat 13)), (.int .i64 (.ofNat 0))]
  need := [(1000, (.cells 140 6 [.nils, (.sl 1001 0 1 1 true), (.int .i64 (.ofNat 4)), (.sl 1002 0 1 1 true), .nils, (.int .i32 (.ofNat 0))] .leaf true false none)), (1001, (.cells 157 5 [(.int .i64 (.ofNat 2)), (.int .i64 (.ofNat 1)), (.int .i64 (.ofNat 0)), (.sl 1003 0 2 2 true), (.int .i32 (.ofNat 0))] .leaf true false none)), (1002, (.cells 3 1 [(.int .i64 (.ofNat 1))] .leaf true false none)), (1003, (.cells 3 2 [(.int .i64 (.ofNat 0)), (.int .i64 (.ofNat 0))] .leaf true false none))]
  n0 := 1004
  v := (.tup [.nils, (.agg [(.int .i64 (.ofNat 0)), (.int .i64 (.ofNat 0)), (.int .i64 (.ofNat 0)), .nils, (.int .i32 (.ofNat 0))]), (.bool false)])
  news := []
  hi := 1069

def ent175 : Ent where
  k := 179
  args := [(.agg [(.int .i64 (.ofNat 1)), (.sl 1000 0 1 1 true)]), (.int .i64 (.ofNat 0)), (.int .i64 (.ofNat 1)), (.int .i64 (.ofNat 14)), (.int .i64 (.ofNat 0))]
  need := [(1000, (.cells 140 6 [.nils, (.sl 1001 0 1 1 true), (.int .i64 (.ofNat 4)), (.sl 1002 0 1 1 true), .nils, (.int .i32 (.ofNat 0))] .leaf true false none)), (1001, (.cells 157 5 [(.int .i64 (.ofNat 2)), (.int .i64 (.ofNat 1)), (.int .i64 (.ofNat 0)), (.sl 1003 0 2 2 true), (.int .i32 (.ofNat 0))] .leaf true false none)), (1002, (.cells 3 1 [(.int .i64 (.ofNat 1))] .leaf true false none)), (1003, (.cells 3 2 [(.int .i64 (.ofNat 0)), (.int .i64 (.ofNat 0))] .leaf true false none))]
  n0 := 1004
  v := (.tup [.nils, (.agg [(.int .i64 (.ofNat 0)), (.int .i64 (.ofNat 0)), (.int .i64 (.ofNat 0)), .nils, (.int .i32 (.ofNat 0))]), (.bool false)])
  news := []
  hi := 1069

def ent176 : Ent where
  k := 179
  args := [(.agg [(.int .i64 (.ofNat 1)), (.sl 1000 0 1 1 true)]), (.int .i64 (.ofNat 0)), (.int .i64 (.ofNat 1)), (.int .i64 (.ofNat 15)), (.int .i64 (.ofNat 0))]
  need := [(1000, (.cells 140 6 [.nils, (.sl 1001 0 1 1 true), (.int .i64 (.ofNat 4)), (.sl 1002 0 1 1 true), .nils, (.int .i32 (.ofNat 0))] .leaf true false none)), (1001, (.cells 157 5 [(.int .i64 (.ofNat 2)), (.int .i64 (.ofNat 1)), (.int .i64 (.ofNat 0)), (.sl 1003 0 2 2 true), (.int .i32 (.ofNat 0))] .leaf true false none)), (1002, (.cells 3 1 [(.int .i64 (.ofNat 1))] .leaf true false none)), (1003, (.cells 3 2 [(.int .i64 (.ofNat 0)), (.int .i64 (.ofNat 0))] .leaf true false none))]
  n0 := 1004
  v := (.tup [.nils, (.agg [(.int .i64 (.ofNat 0)), (.int .i64 (.ofNat 0)), (.int .i64 (.ofNat 0)), .nils, (.int .i32 (.ofNat 0))]), (.bool false)])
  news := []
  hi := 1069

def ent177 : Ent where
  k := 179
  args := [(.agg [(.int .i64 (.ofNat 1)), (.sl 1000 0 1 1 true)]), (.int .i64 (.ofNat 0)), (.int .i64 (.ofNat 1)), (.int .i64 (.ofNat 16)), (.int .i64 (.ofNat 0))]
  need := [(1000, (.cells 140 6 [.nils, (.sl 1001 0 1 1 true), (.int .i64 (.ofNat 4)), (.sl 1002 0 1 1 true), .nils, (.int .i32 (.ofNat 0))] .leaf true false none)), (1001, (.cells 157 5 [(.int .i64 (.ofNat 2)), (.int .i64 (.ofNat 1)), (.int .i64 (.ofNat 0)), (.sl 1003 0 2 2 true), (.int .i32 (.ofNat 0))] .leaf true false none)), (1002, (.cells 3 1 [(.int .i64 (.ofNat 1))] .leaf true false none)), (1003, (.cells 3 2 [(.int .i64 (.ofNat 0)), (.int .i64 (.ofNat 0))] .leaf true false none))]
  n0 := 1004
  v := (.tup [.nils, (.agg [(.int .i64 (.ofNat 0)), (.int .i64 (.ofNat 0)), (.int .i64 (.ofNat 0)), .nils, (.int .i32 (.ofNat 0))]), (.bool false)])
  news := []
  hi := 1069

def ent178 : Ent where
  k := 179
  args := [(.agg [(.int .i64 (.ofNat 1)), (.sl 1000 0 1 1 true)]), (.int .i64 (.ofNat 0)), (.int .i64 (.ofNat 1)), (.int .i64 (.ofNat 17)), (.int .i64 (.ofNat 0))]
  need := [(1000, (.cells 140 6 [.nils, (.sl 1001 0 1 1 true), (.int .i64 (.ofNat 4)), (.sl 1002 0 1 1 true), .nils, (.int .i32 (.ofNat 0))] .leaf true false none)), (1001, (.cells 157 5 [(.int .i64 (.ofNat 2)), (.int .i64 (.ofNat 1)), (.int .i64 (.ofNat 0)), (.sl 1003 0 2 2 true), (.int .i32 (.ofNat 0))] .leaf true false none)), (1002, (.cells 3 1 [(.int .i64 (.ofNat 1))] .leaf true false none)), (1003, (.cells 3 2 [(.int .i64 (.ofNat 0)), (.int .i64 (.ofNat 0))] .leaf true false none))]
  n0 := 1004
  v := (.tup [.nils, (.agg [(.int .i64 (.ofNat 0)), (.int .i64 (.ofNat 0)), (.int .i64 (.ofNat 0)), .nils, (.int .i32 (.ofNat 0))]), (.bool false)])
  news := []
  hi := 1069

def ent179 : Ent where
  k := 179
  args := [(.agg [(.int .i64 (.ofNat 1)), (.sl 1000 0 1 1 true)]), (.int .i64 (.ofNat 0)), (.int .i64 (.ofNat 1)), (.int .i64 (.ofNat 18)), (.int .i64 (.ofNat 0))]
  need := [(1000, (.cells 140 6 [.nils, (.sl 1001 0 1 1 true), (.int .i64 (.ofNat 4)), (.sl 1002 0 1 1 true), .nils, (.int .i32 (.ofNat 0))] .leaf true false none)), (1001, (.cells 157 5 [(.int .i64 (.ofNat 2)), (.int .i64 (.ofNat 1)), (.int .i64 (.ofNat 0)), (.sl 1003 0 2 2 true), (.int .i32 (.ofNat 0))] .leaf true false none)), (1002, (.cells 3 1 [(.int .i64 (.ofNat 1))] .leaf true false none)), (1003, (.cells 3 2 [(.int .i64 (.ofNat 0)), (.int .i64 (.ofNat 0))] .leaf true false none))]
  n0 := 1004
  v := (.tup [.nils, (.agg [(.int .i64 (.ofNat 0)), (.int .i64 (.ofNat 0)), (.int .i64 (.ofNat 0)), .nils, (.int .i32 (.ofNat 0))]), (.bool false)])
  news := []
  hi := 1069

def ent180 : Ent where
  k := 179
  args := [(.agg [(.int .i64 (.ofNat 1)), (.sl 1000 0 1 1 true)]), (.int .i64 (.ofNat 0)), (.int .i64 (.ofNat 1)), (.int .i64 (.ofNat 19)), (.int .i64 (.ofNat 0))]
  need := [(1000, (.cells 140 6 [.nils, (.sl 1001 0 1 1 true), (.int .i64 (.ofNat 4)), (.sl 1002 0 1 1 true), .nils, (.int .i32 (.ofNat 0))] .leaf true false none)), (1001, (.cells 157 5 [(.int .i64 (.ofNat 2)), (.int .i64 (.ofNat 1)), (.int .i64 (.ofNat 0)), (.sl 1003 0 2 2 true), (.int .i32 (.ofNat 0))] .leaf true false none)), (1002, (.cells 3 1 [(.int .i64 (.ofNat 1))] .leaf true false none)), (1003, (.cells 3 2 [(.int .i64 (.ofNat 0)), (.int .i64 (.ofNat 0))] .leaf true false none))]
  n0 := 1004
  v := (.tup [.nils, (.agg [(.int .i64 (.ofNat 0)), (.int .i64 (.ofNat 0)), (.int .i64 (.ofNat 0)), .nils, (.int .i32 (.ofNat 0))]), (.bool false)])
  news := []
  hi := 1069

def ent181 : Ent where
  k := 179
  args := [(.agg [(.int .i64 (.ofNat 1)), (.sl 1000 0 1 1 true)]), (.int .i64 (.ofNat 0)), (.int .i64 (.ofNat 1)), (.int .i64 (.ofNat 20)), (.int .i64 (.ofNat 0))]
  need := [(1000, (.cells 140 6 [.nils, (.sl 1001 0 1 1 true), (.int .i64 (.ofNat 4)), (.sl 1002 0 1 1 true), .nils, (.int .i32 (.ofNat 0))] .leaf true false none)), (1001, (.cells 157 5 [(.int .i64 (.ofNat 2)), (.int .i64 (.ofNat 1)), (.int .i64 (.ofNat 0)), (.sl 1003 0 2 2 true), (.int .i32 (.ofNat 0))] .leaf true false none)), (1002, (.cells 3 1 [(.int .i64 (.ofNat 1))] .leaf true false none)), (1003, (.cells 3 2 [(.int .i64 (.ofNat 0)), (.int .i64 (.ofNat 0))] .leaf true false none))]
  n0 := 1004
  v := (.tup [.nils, (.agg [(.int .i64 (.ofNat 0)), (.int .i64 (.ofNat 0)), (.int .i64 (.ofNat 0)), .nils, (.int .i32 (.ofNat 0))]), (.bool false)])
  news := []
  hi := 1069

def ent182 : Ent where
  k := 179
  args := [(.agg [(.int .i64 (.ofNat 1)), (.sl 1000 0 1 1 true)]), (.int .i64 (.ofNat 0)), (.int .i64 (.ofNat 1)), (.int .i64 (.ofNat 21)), (.int .i64 (.ofNat 0))]
  need := [(1000, (.cells 140 6 [.nils, (.sl 1001 0 1 1 true), (.int .i64 (.ofNat 4)), (.sl 1002 0 1 1 true), .nils, (.int .i32 (.ofNat 0))] .leaf true false none)), (1001, (.cells 157 5 [(.int .i64 (.ofNat 2)), (.int .i64 (.ofNat 1)), (.int .i64 (.ofNat 0)), (.sl 1003 0 2 2 true), (.int .i32 (.ofNat 0))] .leaf true false none)), (1002, (.cells 3 1 [(.int .i64 (.ofNat 1))] .leaf true false none)), (1003, (.cells 3 2 [(.int .i64 (.ofNat 0)), (.int .i64 (.ofNat 0))] .leaf true false none))]
  n0 := 1004
  v := (.tup [.nils, (.agg [(.int .i64 (.ofNat 0)), (.int .i64 (.ofNat 0)), (.int .i64 (.ofNat 0)), .nils, (.int .i32 (.ofNat 0))]), (.bool false)])
  news := []
  hi := 1069

def ent183 : Ent where
  k := 179
  args := [(.agg [(.int .i64 (.ofNat 1)), (.sl 1000 0 1 1 true)]), (.int .i64 (.ofNat 0)), (.int .i64 (.ofNat 1)), (.int .i64 (.ofNat 22)), (.int .i64 (.ofNat 0))]
  need := [(1000, (.cells 140 6 [.nils, (.sl 1001 0 1 1 true), (.int .i64 (.ofNat 4)), (.sl 1002 0 1 1 true), .nils, (.int .i32 (.ofNat 0))] .leaf true false none)), (1001, (.cells 157 5 [(.int .i64 (.ofNat 2)), (.int .i64 (.ofNat 1)), (.int .i64 (.ofNat 0)), (.sl 1003 0 2 2 true), (.int .i32 (.ofNat 0))] .leaf true false none)), (1002, (.cells 3 1 [(.int .i64 (.ofNat 1))] .leaf true false none)), (1003, (.cells 3 2 [(.int .i64 (.ofNat 0)), (.int .i64 (.ofNat 0))] .leaf true false none))]
  n0 := 1004
  v := (.tup [.nils, (.agg [(.int .i64 (.ofNat 0)), (.int .i64 (.ofNat 0)), (.int .i64 (.ofNat 0)), .nils, (.int .i32 (.ofNat 0))]), (.bool false)])
  news := []
  hi := 1069

def ent184 : Ent where
  k := 179
  args := [(.agg [(.int .i64 (.ofNat 1)), (.sl 1000 0 1 1 true)]), (.int .i64 (.ofNat 0)), (.int .i64 (.ofNat 1)), (.int .i64 (.ofNat 23)), (.int .i64 (.ofNat 0))]
  need := [(1000, (.cells 140 6 [.nils, (.sl 1001 0 1 1 true), (.int .i64 (.ofNat 4)), (.sl 1002 0 1 1 true), .nils, (.int .i32 (.ofNat 0))] .leaf true false none)), (1001, (.cells 157 5 [(.int .i64 (.ofNat 2)), (.int .i64 (.ofNat 1)), (.int .i64 (.ofNat 0)), (.sl 1003 0 2 2 true), (.int .i32 (.ofNat 0))] .leaf true false none)), (1002, (.cells 3 1 [(.int .i64 (.ofNat 1))] .leaf true false none)), (1003, (.cells 3 2 [(.int .i64 (.ofNat 0)), (.int .i64 (.ofNat 0))] .leaf true false none))]
  n0 := 1004
  v := (.tup [.nils, (.agg [(.int .i64 (.ofNat 0)), (.int .i64 (.ofNat 0)), (.int .i64 (.ofNat 0)), .nils, (.int .i32 (.ofNat 0))]), (.bool false)])
  news := []
  hi := 1069

def ent185 : Ent where
  k := 179
  args := [(.agg [(.int .i64 (.ofNat 1)), (.sl 1000 0 1 1 true)]), (.int .i64 (.ofNat 0)), (.int .i64 (.ofNat 1)), (.int .i64 (.ofNat 24)), (.int .i64 (.ofNat 0))]
  need := [(1000, (.cells 140 6 [.nils, (.sl 1001 0 1 1 true), (.int .i64 (.ofNat 4)), (.sl 1002 0 1 1 true), .nils, (.int .i32 (.ofNat 0))] .leaf true false none)), (1001, (.cells 157 5 [(.int .i64 (.ofNat 2)), (.int .i64 (.ofNat 1)), (.int .i64 (.ofNat 0)), (.sl 1003 0 2 2 true), (.int .i32 (.ofNat 0))] .leaf true false none)), (1002, (.cells 3 1 [(.int .i64 (.ofNat 1))] .leaf true false none)), (1003, (.cells 3 2 [(.int .i64 (.ofNat 0)), (.int .i64 (.ofNat 0))] .leaf true false none))]
  n0 := 1004
  v := (.tup [.nils, (.agg [(.int .i64 (.ofNat 0)), (.int .i64 (.ofNat 0)), (.int .i64 (.ofNat 0)), .nils, (.int .i32 (.ofNat 0))]), (.bool false)])
  news := []
  hi := 1069

def ent186 : Ent where
  k := 179
  args := [(.agg [(.int .i64 (.ofNat 1)), (.sl 1000 0 1 1 true)]), (.int .i64 (.ofNat 0)), (.int .i64 (.ofNat 1)), (.int .i64 (.ofNat 25)), (.int .i64 (.ofNat 0))]
  need := [(1000, (.cells 140 6 [.nils, (.sl 1001 0 1 1 true), (.int .i64 (.ofNat 4)), (.sl 1002 0 1 1 true), .nils, (.int .i32 (.ofNat 0))] .leaf true false none)), (1001, (.cells 157 5 [(.int .i64 (.ofNat 2)), (.int .i64 (.ofNat 1)), (.int .i64 (.ofNat 0)), (.sl 1003 0 2 2 true), (.int .i32 (.ofNat 0))] .leaf true false none)), (1002, (.cells 3 1 [(.int .i64 (.ofNat 1))] .leaf true false none)), (1003, (.cells 3 2 [(.int .i64 (.ofNat 0)), (.int .i64 (.ofNat 0))] .leaf true false none))]
  n0 := 1004
  v := (.tup [.nils, (.agg [(.int .i64 (.ofNat 0)), (.int .i64 (.ofNat 0)), (.int .i64 (.ofNat 0)), .nils, (.int .i32 (.ofNat 0))]), (.bool false)])
  news := []
  hi := 1069

def ent187 : Ent where
  k := 179
  args := [(.agg [(.int .i64 (.ofNat 1)), (.sl 1000 0 1 1 true)]), (.int .i64 (.ofNat 0)), (.int .i64 (.ofNat 1)), (.int .i64 (.ofNat 26)), (.int .i64 (.ofNat 0))]
  need := [(1000, (.cells 140 6 [.nils, (.sl 1001 0 1 1 true), (.int .i64 (.ofNat 4)), (.sl 1002 0 1 1 true), .nils, (.int .i32 (.ofNat 0))] .leaf true false none)), (1001, (.cells 157 5 [(.int .i64 (.ofNat 2)), (.int .i64 (.ofNat 1)), (.int .i64 (.ofNat 0)), (.sl 1003 0 2 2 true), (.int .i32 (.ofNat 0))] .leaf true false none)), (1002, (.cells 3 1 [(.int .i64 (.ofNat 1))] .leaf true false none)), (1003, (.cells 3 2 [(.int .i64 (.ofNat 0)), (.int .i64 (.ofNat 0))] .leaf true false none))]
  n0 := 1004
  v := (.tup [.nils, (.agg [(.int .i64 (.ofNat 0)), (.int .i64 (.ofNat 0)), (.int .i64 (.ofNat 0)), .nils, (.int .i32 (.ofNat 0))]), (.bool false)])
  news := []
  hi := 1069

def ent188 : Ent where
  k := 179
  args := [(.agg [(.int .i64 (.ofNat 1)), (.sl 1000 0 1 1 true)]), (.int .i64 (.ofNat 0)), (.int .i64 (.ofNat 1)), (.int .i64 (.ofNat 27)), (.int .i64 (.ofNat 0))]
  need := [(1000, (.cells 140 6 [.nils, (.sl 1001 0 1 1 true), (.int .i64 (.ofNat 4)), (.sl 1002 0 1 1 true), .nils, (.int .i32 (.ofNat 0))] .leaf true false none)), (1001, (.cells 157 5 [(.int .i64 (.ofNat 2)), (.int .i64 (.ofNat 1)), (.int .i64 (.ofNat 0)), (.sl 1003 0 2 2 true), (.int .i32 (.ofNat 0))] .leaf true false none)), (1002, (.cells 3 1 [(.int .i64 (.ofNat 1))] .leaf true false none)), (1003, (.cells 3 2 [(.int .i64 (.ofNat 0)), (.int .i64 (.ofNat 0))] .leaf true false none))]
  n0 := 1004
  v := (.tup [.nils, (.agg [(.int .i64 (.ofNat 0)), (.int .i64 (.ofNat 0)), (.int .i64 (.ofNat 0)), .nils, (.int .i32 (.ofNat 0))]), (.bool false)])
  news := []
  hi := 1069

def ent189 : Ent where
  k := 179
  args := [(.agg [(.int .i64 (.ofNat 1)), (.sl 1000 0 1 1 true)]), (.int .i64 (.ofNat 0)), (.int .i64 (.ofNat 1)), (.int .i64 (.ofNat 28)), (.int .i64 (.ofNat 0))]
  need := [(1000, (.cells 140 6 [.nils, (.sl 1001 0 1 1 true), (.int .i64 (.ofNat 4)), (.sl 1002 0 1 1 true), .nils, (.int .i32 (.ofNat 0))] .leaf true false none)), (1001, (.cells 157 5 [(.int .i64 (.ofNat 2)), (.int .i64 (.ofNat 1)), (.int .i64 (.ofNat 0)), (.sl 1003 0 2 2 true), (.int .i32 (.ofNat 0))] .leaf true false none)), (1002, (.cells 3 1 [(.int .i64 (.ofNat 1))] .leaf true false none)), (1003, (.cells 3 2 [(.int .i64 (.ofNat 0)), (.int .i64 (.ofNat 0))] .leaf true false none))]
  n0 := 1004
  v := (.tup [.nils, (.agg [(.int .i64 (.ofNat 0)), (.int .i64 (.ofNat 0)), (.int .i64 (.ofNat 0)), .nils, (.int .i32 (.ofNat 0))]), (.bool false)])
  news := []
  hi := 1069

def ent190 : Ent where
  k := 179
  args := [(.agg [(.int .i64 (.ofNat 1)), (.sl 1000 0 1 1 true)]), (.int .i64 (.ofNat 0)), (.int .i64 (.ofNat 1)), (.int .i64 (.ofNat 29)), (.int .i64 (.ofNat 0))]
  need := [(1000, (.cells 140 6 [.nils, (.sl 1001 0 1 1 true), (.int .i64 (.ofNat 4)), (.sl 1002 0 1 1 true), .nils, (.int .i32 (.ofNat 0))] .leaf true false none)), (1001, (.cells 157 5 [(.int .i64 (.ofNat 2)), (.int .i64 (.ofNat 1)), (.int .i64 (.ofNat 0)), (.sl 1003 0 2 2 true), (.int .i32 (.ofNat 0))] .leaf true false none)), (1002, (.cells 3 1 [(.int .i64 (.ofNat 1))] .leaf true false none)), (1003, (.cells 3 2 [(.int .i64 (.ofNat 0)), (.int .i64 (.ofNat 0))] .leaf true false none))]
  n0 := 1004
  v := (.tup [.nils, (.agg [(.int .i64 (.ofNat 0)), (.int .i64 (.ofNat 0)), (.int .i64 (.ofNat 0)), .nils, (.int .i32 (.ofNat 0))]), (.bool false)])
  news := []
  hi := 1069

def ent191 : Ent where
  k := 179
  args := [(.agg [(.int .i64 (.ofNat 1)), (.sl 1000 0 1 1 true)]), (.int .i64 (.ofNat 0)), (.int .i64 (.ofNat 1)), (.int .i64 (.ofNat 30)), (.int .i64 (.ofNat 0))]
  need := [(1000, (.cells 140 6 [.nils, (.sl 1001 0 1 1 true), (.int .i64 (.ofNat 4)), (.sl 1002 0 1 1 true), .nils, (.int .i32 (.ofNat 0))] .leaf true false none)), (1001, (.cells 157 5 [(.int .i64 (.ofNat 2)), (.int .i64 (.ofNat 1)), (.int .i64 (.ofNat 0)), (.sl 1003 0 2 2 true), (.int .i32 (.ofNat 0))] .leaf true false none)), (1002, (.cells 3 1 [(.int .i64 (.ofNat 1))] .leaf true false none)), (1003, (.cells 3 2 [(.int .i64 (.ofNat 0)), (.int .i64 (.ofNat 0))] .leaf true false none))]
  n0 := 1004
  v := (.tup [.nils, (.agg [(.int .i64 (.ofNat 0)), (.int .i64 (.ofNat 0)), (.int .i64 (.ofNat 0)), .nils, (.int .i32 (.ofNat 0))]), (.bool false)])
  news := []
  hi := 1069

def ent192 : Ent where
  k := 179
  args := [(.agg [(.int .i64 (.ofNat 1)), (.sl 1000 0 1 1 true)]), (.int .i64 (.ofNat 0)), (.int .i64 (.ofNat 1)), (.int .i64 (.ofNat 31)), (.int .i64 (.ofNat 0))]
  need := [(1000, (.cells 140 6 [.nils, (.sl 1001 0 1 1 true), (.int .i64 (.ofNat 4)), (.sl 1002 0 1 1 true), .nils, (.int .i32 (.ofNat 0))] .leaf true false none)), (1001, (.cells 157 5 [(.int .i64 (.ofNat 2)), (.int .i64 (.ofNat 1)), (.int .i64 (.ofNat 0)), (.sl 1003 0 2 2 true), (.int .i32 (.ofNat 0))] .leaf true false none)), (1002, (.cells 3 1 [(.int .i64 (.ofNat 1))] .leaf true false none)), (1003, (.cells 3 2 [(.int .i64 (.ofNat 0)), (.int .i64 (.ofNat 0))] .leaf true false none))]
  n0 := 1004
  v := (.tup [.nils, (.agg [(.int .i64 (.ofNat 0)), (.int .i64 (.ofNat 0)), (.int .i64 (.ofNat 0)), .nils, (.int .i32 (.ofNat 0))]), (.bool false)])
  news := []
  hi := 1069

def ent193 : Ent where
  k := 179
  args := [(.agg [(.int .i64 (.ofNat 1)), (.sl 1000 0 1 1 true)]), (.int .i64 (.ofNat 0)), (.int .i64 (.ofNat 1)), (.int .i64 (.ofNat 32)), (.int .i64 (.ofNat 0))]
  need := [(1000, (.cells 140 6 [.nils, (.sl 1001 0 1 1 true), (.int .i64 (.ofNat 4)), (.sl 1002 0 1 1 true), .nils, (.int .i32 (.ofNat 0))] .leaf true false none)), (1001, (.cells 157 5 [(.int .i64 (.ofNat 2)), (.int .i64 (.ofNat 1)), (.int .i64 (.ofNat 0)), (.sl 1003 0 2 2 true), (.int .i32 (.ofNat 0))] .leaf true false none)), (1002, (.cells 3 1 [(.int .i64 (.ofNat 1))] .leaf true false none)), (1003, (.cells 3 2 [(.int .i64 (.ofNat 0)), (.int .i64 (.ofNat 0))] .leaf true false none))]
  n0 := 1004
  v := (.tup [.nils, (.agg [(.int .i64 (.ofNat 0)), (.int .i64 (.ofNat 0)), (.int .i64 (.ofNat 0)), .nils, (.int .i32 (.ofNat 0))]), (.bool false)])
  news := []
  hi := 1069

def ent194 : Ent where
  k := 179
  args := [(.agg [(.int .i64 (.ofNat 1)), (.sl 1000 0 1 1 true)]), (.int .i64 (.ofNat 0)), (.int .i64 (.ofNat 1)), (.int .i64 (.ofNat 33)), (.int .i64 (.ofNat 0))]
  need := [(1000, (.cells 140 6 [.nils, (.sl 1001 0 1 1 true), (.int .i64 (.ofNat 4)), (.sl 1002 0 1 1 true), .nils, (.int .i32 (.ofNat 0))] .leaf true false none)), (1001, (.cells 157 5 [(.int .i64 (.ofNat 2)), (.int .i64 (.ofNat 1)), (.int .i64 (.ofNat 0)), (.sl 1003 0 2 2 true), (.int .i32 (.ofNat 0))] .leaf true false none)), (1002, (.cells 3 1 [(.int .i64 (.ofNat 1))] .leaf true false none)), (1003, (.cells 3 2 [(.int .i64 (.ofNat 0)), (.int .i64 (.ofNat 0))] .leaf true false none))]
  n0 := 1004
  v := (.tup [.nils, (.agg [(.int .i64 (.ofNat 0)), (.int .i64 (.ofNat 0)), (.int .i64 (.ofNat 0)), .nils, (.int .i32 (.ofNat 0))]), (.bool false)])
  news := []
  hi := 1069

def ent195 : Ent where
  k := 179
  args := [(.agg [(.int .i64 (.ofNat 1)), (.sl 1000 0 1 1 true)]), (.int .i64 (.ofNat 0)), (.int .i64 (.ofNat 1)), (.int .i64 (.ofNat 34)), (.int .i64 (.ofNat 0))]
  need := [(1000, (.cells 140 6 [.nils, (.sl 1001 0 1 1 true), (.int .i64 (.ofNat 4)), (.sl 1002 0 1 1 true), .nils, (.int .i32 (.ofNat 0))] .leaf true false none)), (1001, (.cells 157 5 [(.int .i64 (.ofNat 2)), (.int .i64 (.ofNat 1)), (.int .i64 (.ofNat 0)), (.sl 1003 0 2 2 true), (.int .i32 (.ofNat 0))] .leaf true false none)), (1002, (.cells 3 1 [(.int .i64 (.ofNat 1))] .leaf true false none)), (1003, (.cells 3 2 [(.int .i64 (.ofNat 0)), (.int .i64 (.ofNat 0))] .leaf true false none))]
  n0 := 1004
  v := (.tup [.nils, (.agg [(.int .i64 (.ofNat 0)), (.int .i64 (.ofNat 0)), (.int .i64 (.ofNat 0)), .nils, (.int .i32 (.ofNat 0))]), (.bool false)])
  news := []
  hi := 1069

def ent196 : Ent where
  k := 179
  args := [(.agg [(.int .i64 (.ofNat 1)), (.sl 1000 0 1 1 true)]), (.int .i64 (.ofNat 0)), (.int .i64 (.ofNat 1)), (.int .i64 (.ofNat 35)), (.int .i64 (.ofNat 0))]
  need := [(1000, (.cells 140 6 [.nils, (.sl 1001 0 1 1 true), (.int .i64 (.ofNat 4)), (.sl 1002 0 1 1 true), .nils, (.int .i32 (.ofNat 0))] .leaf true false none)), (1001, (.cells 157 5 [(.int .i64 (.ofNat 2)), (.int .i64 (.ofNat 1)), (.int .i64 (.ofNat 0)), (.sl 1003 0 2 2 true), (.int .i32 (.ofNat 0))] .leaf true false none)), (1002, (.cells 3 1 [(.int .i64 (.ofNat 1))] .leaf true false none)), (1003, (.cells 3 2 [(.int .i64 (.ofNat 0)), (.int .i64 (.ofNat 0))] .leaf true false none))]
  n0 := 1004
  v := (.tup [.nils, (.agg [(.int .i64 (.ofNat 0)), (.int .i64 (.ofNat 0)), (.int .i64 (.ofNat 0)), .nils, (.int .i32 (.ofNat 0))]), (.bool false)])
  news := []
  hi := 1069

def ent197 : Ent where
  k := 179
  args := [(.agg [(.int .i64 (.ofNat 1)), (.sl 1000 0 1 1 true)]), (.int .i64 (.ofNat 0)), (.int .i64 (.ofNat 1)), (.int .i64 (.ofNat 36)), (.int .i64 (.ofNat 0))]
  need := [(1000, (.cells 140 6 [.nils, (.sl 1001 0 1 1 true), (.int .i64 (.ofNat 4)), (.sl 1002 0 1 1 true), .nils, (.int .i32 (.ofNat 0))] .leaf true false none)), (1001, (.cells 157 5 [(.int .i64 (.ofNat 2)), (.int .i64 (.ofNat 1)), (.int .i64 (.ofNat 0)), (.sl 1003 0 2 2 true), (.int .i32 (.ofNat 0))] .leaf true false none)), (1002, (.cells 3 1 [(.int .i64 (.ofNat 1))] .leaf true false none)), (1003, (.cells 3 2 [(.int .i64 (.ofNat 0)), (.int .i64 (.ofNat 0))] .leaf true false none))]
  n0 := 1004
  v := (.tup [.nils, (.agg [(.int .i64 (.ofNat 0)), (.int .i64 (.ofNat 0)), (.int .i64 (.ofNat 0)), .nils, (.int .i32 (.ofNat 0))]), (.bool false)])
  news := []
  hi := 1069

def ent198 : Ent where
  k := 179
  args := [(.agg [(.int .i64 (.ofNat 1)), (.sl 1000 0 1 1 true)]), (.int .i64 (.ofNat 0)), (.int .i64 (.ofNat 1)), (.int .i64 (.ofNat 37)), (.int .i64 (.ofNat 0))]
  need := [(1000, (.cells 140 6 [.nils, (.sl 1001 0 1 1 true), (.int .i64 (.ofNat 4)), (.sl 1002 0 1 1 true), .nils, (.int .i32 (.ofNat 0))] .leaf true false none)), (1001, (.cells 157 5 [(.int .i64 (.ofNat 2)), (.int .i64 (.ofNat 1)), (.int .i64 (.ofNat 0)), (.sl 1003 0 2 2 true), (.int .i32 (.ofNat 0))] .leaf true false none)), (1002, (.cells 3 1 [(.int .i64 (.ofNat 1))] .leaf true false none)), (1003, (.cells 3 2 [(.int .i64 (.ofNat 0)), (.int .i64 (.ofNat 0))] .leaf true false none))]
  n0 := 1004
  v := (.tup [.nils, (.agg [(.int .i64 (.ofNat 0)), (.int .i64 (.ofNat 0)), (.int .i64 (.ofNat 0)), .nils, (.int .i32 (.ofNat 0))]), (.bool false)])
  news := []
  hi := 1069

def ent199 : Ent where
  k := 214
  args := [(.agg [(.int .i64 (.ofNat 1)), (.sl 1000 0 1 1 true)]), (.int .i64 (.ofNat 0)), (.int .i64 (.ofNat 1)), (.int .i64 (.ofNat 0))]
  need := [(1000, (.cells 140 6 [.nils, (.sl 1001 0 1 1 true), (.int .i64 (.ofNat 4)), (.sl 1002 0 1 1 true), .nils, (.int .i32 (.ofNat 0))] .leaf true false none)), (1001, (.cells 157 5 [(.int .i64 (.ofNat 2)), (.int .i64 (.ofNat 1)), (.int .i64 (.ofNat 0)), (.sl 1003 0 2 2 true), (.int .i32 (.ofNat 0))] .leaf true false none)), (1002, (.cells 3 1 [(.int .i64 (.ofNat 1))] .leaf true false none)), (1003, (.cells 3 2 [(.int .i64 (.ofNat 0)), (.int .i64 (.ofNat 0))] .leaf true false none))]
  n0 := 1004
  v := (.tup [.nils, .nils, (.bool false)])
  news := []
  hi := 1009

def ent200 : Ent where
  k := 107
  args := [(.agg [(.int .i64 (.ofNat 1)), (.sl 1000 0 1 1 true)]), (.sl 1001 0 37 37 true), (.agg [(.int .i64 (.ofNat 1)), (.sl 1002 0 1 1 true)]), (.int .i64 (.ofNat 1))]
  need := [asciiObj, (1000, (.cells 140 6 [.nils, (.sl 1003 0 1 1 true), (.int .i64 (.ofNat 4)), (.sl 1004 0 1 1 true), .nils, (.int .i32 (.ofNat 0))] .leaf true false none)), (1001, (.cells 69 74 [(.int .i64 (.ofNat 1)), (.int .i64 (.ofNat 1)), (.int .i64 (.ofNat 2)), (.int .i64 (.ofNat 2)), (.int .i64 (.ofNat 3)), (.int .i64 (.ofNat 1)), (.int .i64 (.ofNat 4)), (.int .i64 (.ofNat 1)), (.int .i64 (.ofNat 5)), (.int .i64 (.ofNat 3)), (.int .i64 (.ofNat 6)), (.int .i64 (.ofNat 1)), (.int .i64 (.ofNat 7)), (.int .i64 (.ofNat 1)), (.int .i64 (.ofNat 8)), (.int .i64 (.ofNat 1)), (.int .i64 (.ofNat 9)), (.int .i64 (.ofNat 1)), (.int .i64 (.ofNat 10)), (.int .i64 (.ofNat 1)), (.int .i64 (.ofNat 11)), (.int .i64 (.ofNat 1)), (.int .i64 (.ofNat 12)), (.int .i64 (.ofNat 1)), (.int .i64 (.ofNat 13)), (.int .i64 (.ofNat 1)), (.int .i64 (.ofNat 14)), (.int .i64 (.ofNat 1)), (.int .i64 (.ofNat 15)), (.int .i64 (.ofNat 12)), (.int .i64 (.ofNat 16)), (.int .i64 (.ofNat 1)), (.int .i64 (.ofNat 17)), (.int .i64 (.ofNat 1)), (.int .i64 (.ofNat 18)), (.int .i64 (.ofNat 1)), (.int .i64 (.ofNat 19)), (.int .i64 (.ofNat 1)), (.int .i64 (.ofNat 20)), (.int .i64 (.ofNat 1)), (.int .i64 (.ofNat 21)), (.int .i64 (.ofNat 1)), (.int .i64 (.ofNat 22)), (.int .i64 (.ofNat 3)), (.int .i64 (.ofNat 23)), (.int .i64 (.ofNat 2)), (.int .i64 (.ofNat 24)), (.int .i64 (.ofNat 2)), (.int .i64 (.ofNat 25)), (.int .i64 (.ofNat 2)), (.int .i64 (.ofNat 26)), (.int .i64 (.ofNat 4)), (.int .i64 (.ofNat 27)), (.int .i64 (.ofNat 1)), (.int .i64 (.ofNat 28)), (.int .i64 (.ofNat 1)), (.int .i64 (.ofNat 29)), (.int .i64 (.ofNat 1)), (.int .i64 (.ofNat 30)), (.int .i64 (.ofNat 3)), (.int .i64 (.ofNat 31)), (.int .i64 (.ofNat 6)), (.int .i64 (.ofNat 32)), (.int .i64 (.ofNat 4)), (.int .i64 (.ofNat 33)), (.int .i64 (.ofNat 1)), (.int .i64 (.ofNat 34)), (.int .i64 (.ofNat 1)), (.int .i64 (.ofNat 35)), (.int .i64 (.ofNat 1)), (.int .i64 (.ofNat 36)), (.int .i64 (.ofNat 1)), (.int .i64 (.ofNat 37)), (.int .i64 (.ofNat 2))] .leaf true false none)), (1002, (.cells 278 7 [.nils, (.sl 1005 0 1 1 true), (.int .i64 (.ofNat 7)), (.int .i64 (.ofNat 1)), (.int .i64 (.ofNat 0)), .nils, (.int .i32 (.ofNat 0))] .leaf true false none)), (1003, (.cells 157 5 [(.int .i64 (.ofNat 2)), (.int .i64 (.ofNat 1)), (.int .i64 (.ofNat 0)), (.sl 1006 0 2 2 true), (.int .i32 (.ofNat 0))] .leaf true false none)), (1004, (.cells 3 1 [(.int .i64 (.ofNat 1))] .leaf true false none)), (1005, (.cells 183 8 [(.int .i64 (.ofNat 5)), (.int .i64 (.ofNat 1)), (.int .i64 (.ofNat 0)), (.int .i64 (.ofNat 0)), (.int .i64 (.ofNat 0)), (.int .i64 (.ofNat 0)), (.int .i32 (.ofNat 0)), .nils] .leaf true false none)), (1006, (.cells 3 2 [(.int .i64 (.ofNat 0)), (.int .i64 (.ofNat 0))] .leaf true false none))]
  n0 := 1007
  v := (.tup [(.int .i64 (.ofNat 0)), (.int .i64 (.ofNat 0)), (.int .i64 (.ofNat 0))])
  news := []
  hi := 1551

def ent201 : Ent where
  k := 214
  args := [(.agg [(.int .i64 (.ofNat 1)), (.sl 1000 0 1 1 true)]), (.int .i64 (.ofNat 0)), (.int .i64 (.ofNat 0)), (.int .i64 (.ofNat 0))]
  need := [(1000, (.cells 140 6 [.nils, (.sl 1001 0 1 1 true), (.int .i64 (.ofNat 4)), (.sl 1002 0 1 1 true), .nils, (.int .i32 (.ofNat 0))] .leaf true false none)), (1001, (.cells 157 5 [(.int .i64 (.ofNat 2)), (.int .i64 (.ofNat 1)), (.int .i64 (.ofNat 0)), (.sl 1003 0 2 2 true), (.int .i32 (.ofNat 0))] .leaf true false none)), (1002, (.cells 3 1 [(.int .i64 (.ofNat 1))] .leaf true false none)), (1003, (.cells 3 2 [(.int .i64 (.ofNat 0)), (.int .i64 (.ofNat 0))] .leaf true false none))]
  n0 := 1004
  v := (.tup [.nils, .nils, (.bool false)])
  news := []
  hi := 1009

def ent202 : Ent where
  k := 214
  args := [(.agg [(.int .i64 (.ofNat 1)), (.sl 1000 0 1 1 true)]), (.int .i64 (.ofNat 0)), (.int .i64 (.ofNat 1)), (.int .i64 (.ofNat 1))]
  need := [(1000, (.cells 140 6 [.nils, (.sl 1001 0 1 1 true), (.int .i64 (.ofNat 4)), (.sl 1002 0 1 1 true), .nils, (.int .i32 (.ofNat 0))] .leaf true false none)), (1001, (.cells 157 5 [(.int .i64 (.ofNat 2)), (.int .i64 (.ofNat 1)), (.int .i64 (.ofNat 0)), (.sl 1003 0 2 2 true), (.int .i32 (.ofNat 0))] .leaf true false none)), (1002, (.cells 3 1 [(.int .i64 (.ofNat 1))] .leaf true false none)), (1003, (.cells 3 2 [(.int .i64 (.ofNat 0)), (.int .i64 (.ofNat 0))] .leaf true false none))]
  n0 := 1004
  v := (.tup [.nils, .nils, (.bool false)])
  news := []
  hi := 1068

def ent203 : Ent where
  k := 214
  args := [(.agg [(.int .i64 (.ofNat 1)), (.sl 1000 0 1 1 true)]), (.int .i64 (.ofNat 0)), (.int .i64 (.ofNat 1)), (.int .i64 (.ofNat 2))]
  need := [(1000, (.cells 140 6 [.nils, (.sl 1001 0 1 1 true), (.int .i64 (.ofNat 4)), (.sl 1002 0 1 1 true), .nils, (.int .i32 (.ofNat 0))] .leaf true false none)), (1001, (.cells 157 5 [(.int .i64 (.ofNat 2)), (.int .i64 (.ofNat 1)), (.int .i64 (.ofNat 0)), (.sl 1003 0 2 2 true), (.int .i32 (.ofNat 0))] .leaf true false none)), (1002, (.cells 3 1 [(.int .i64 (.ofNat 1))] .leaf true false none)), (1003, (.cells 3 2 [(.int .i64 (.ofNat 0)), (.int .i64 (.ofNat 0))] .leaf true false none))]
  n0 := 1004
  v := (.tup [.nils, .nils, (.bool false)])
  news := []
  hi := 1068

def ent204 : Ent where
  k := 214
  args := [(.agg [(.int .i64 (.ofNat 1)), (.sl 1000 0 1 1 true)]), (.int .i64 (.ofNat 0)), (.int .i64 (.ofNat 1)), (.int .i64 (.ofNat 3))]
  need := [(1000, (.cells 140 6 [.nils, (.sl 1001 0 1 1 true), (.int .i64 (.ofNat 4)), (.sl 1002 0 1 1 true), .nils, (.int .i32 (.ofNat 0))] .leaf true false none)), (1001, (.cells 157 5 [(.int .i64 (.ofNat 2)), (.int .i64 (.ofNat 1)), (.int .i64 (.ofNat 0)), (.sl 1003 0 2 2 true), (.int .i32 (.ofNat 0))] .leaf true false none)), (1002, (.cells 3 1 [(.int .i64 (.ofNat 1))] .leaf true false none)), (1003, (.cells 3 2 [(.int .i64 (.ofNat 0)), (.int .i64 (.ofNat 0))] .leaf true false none))]
  n0 := 1004
  v := (.tup [.nils, .nils, (.bool false)])
  news := []
  hi := 1068

def ent205 : Ent where
  k := 214
  args := [(.agg [(.int .i64 (.ofNat 1)), (.sl 1000 0 1 1 true)]), (.int .i64 (.ofNat 0)), (.int .i64 (.ofNat 1)), (.int .i64 (.ofNat 4))]
  need := [(1000, (.cells 140 6 [.nils, (.sl 1001 0 1 1 true), (.int .i64 (.ofNat 4)), (.sl 1002 0 1 1 true), .nils, (.int .i32 (.ofNat 0))] .leaf true false none)), (1001, (.cells 157 5 [(.int .i64 (.ofNat 2)), (.int .i64 (.ofNat 1)), (.int .i64 (.ofNat 0)), (.sl 1003 0 2 2 true), (.int .i32 (.ofNat 0))] .leaf true false none)), (1002, (.cells 3 1 [(.int .i64 (.ofNat 1))] .leaf true false none)), (1003, (.cells 3 2 [(.int .i64 (.ofNat 0)), (.int .i64 (.ofNat 0))] .leaf true false none))]
  n0 := 1004
  v := (.tup [.nils, .nils, (.bool false)])
  news := []
  hi := 1068

def ent206 : Ent where
  k := 214
  args := [(.agg [(.int .i64 (.ofNat 1)), (.sl 1000 0 1 1 true)]), (.int .i64 (.ofNat 0)), (.int .i64 (.ofNat 1)), (.int .i64 (.ofNat 5))]
  need := [(1000, (.cells 140 6 [.nils, (.sl 1001 0 1 1 true), (.int .i64 (.ofNat 4)), (.sl 1002 0 1 1 true), .nils, (.int .i32 (.ofNat 0))] .leaf true false none)), (1001, (.cells 157 5 [(.int .i64 (.ofNat 2)), (.int .i64 (.ofNat 1)), (.int .i64 (.ofNat 0)), (.sl 1003 0 2 2 true), (.int .i32 (.ofNat 0))] .leaf true false none)), (1002, (.cells 3 1 [(.int .i64 (.ofNat 1))] .leaf true false none)), (1003, (.cells 3 2 [(.int .i64 (.ofNat 0)), (.int .i64 (.ofNat 0))] .leaf true false none))]
  n0 := 1004
  v := (.tup [.nils, .nils, (.bool false)])
  news := []
  hi := 1068

def ent207 : Ent where
  k := 214
  args := [(.agg [(.int .i64 (.ofNat 1)), (.sl 1000 0 1 1 true)]), (.int .i64 (.ofNat 0)), (.int .i64 (.ofNat 1)), (.int .i64 (.ofNat 6))]
  need := [(1000, (.cells 140 6 [.nils, (.sl 1001 0 1 1 true), (.int .i64 (.ofNat 4)), (.sl 1002 0 1 1 true), .nils, (.int .i32 (.ofNat 0))] .leaf true false none)), (1001, (.cells 157 5 [(.int .i64 (.ofNat 2)), (.int .i64 (.ofNat 1)), (.int .i64 (.ofNat 0)), (.sl 1003 0 2 2 true), (.int .i32 (.ofNat 0))] .leaf true false none)), (1002, (.cells 3 1 [(.int .i64 (.ofNat 1))] .leaf true false none)), (1003, (.cells 3 2 [(.int .i64 (.ofNat 0)), (.int .i64 (.ofNat 0))] .leaf true false none))]
  n0 := 1004
  v := (.tup [.nils, .nils, (.bool false)])
  news := []
  hi := 1068

def ent208 : Ent where
  k := 214
  args := [(.agg [(.int .i64 (.ofNat 1)), (.sl 1000 0 1 1 true)]), (.int .i64 (.ofNat 0)), (.int .i64 (.ofNat 1)), (.int .i64 (.ofNat 7))]
  need := [(1000, (.cells 140 6 [.nils, (.sl 1001 0 1 1 true), (.int .i64 (.ofNat 4)), (.sl 1002 0 1 1 true), .nils, (.int .i32 (.ofNat 0))] .leaf true false none)), (1001, (.cells 157 5 [(.int .i64 (.ofNat 2)), (.int .i64 (.ofNat 1)), (.int .i64 (.ofNat 0)), (.sl 1003 0 2 2 true), (.int .i32 (.ofNat 0))] .leaf true false none)), (1002, (.cells 3 1 [(.int .i64 (.ofNat 1))] .leaf true false none)), (1003, (.cells 3 2 [(.int .i64 (.ofNat 0)), (.int .i64 (.ofNat 0))] .leaf true false none))]
  n0 := 1004
  v := (.tup [.nils, .nils, (.bool false)])
  news := []
  hi := 1068

def ent209 : Ent where
  k := 214
  args := [(.agg [(.int .i64 (.ofNat 1)), (.sl 1000 0 1 1 true)]), (.int .i64 (.ofNat 0)), (.int .i64 (.ofNat 1)), (.int .i64 (.ofNat 8))]
  need := [(1000, (.cells 140 6 [.nils, (.sl 1001 0 1 1 true), (.int .i64 (.ofNat 4)), (.sl 1002 0 1 1 true), .nils, (.int .i32 (.ofNat 0))] .leaf true false none)), (1001, (.cells 157 5 [(.int .i64 (.ofNat 2)), (.int .i64 (.ofNat 1)), (.int .i64 (.ofNat 0)), (.sl 1003 0 2 2 true), (.int .i32 (.ofNat 0))] .leaf true false none)), (1002, (.cells 3 1 [(.int .i64 (.ofNat 1))] .leaf true false none)), (1003, (.cells 3 2 [(.int .i64 (.ofNat 0)), (.int .i64 (.ofNat 0))] .leaf true false none))]
  n0 := 1004
  v := (.tup [.nils, .nils, (.bool false)])
  news := []
  hi := 1068

def ent210 : Ent where
  k := 214
  args := [(.agg [(.int .i64 (.ofNat 1)), (.sl 1000 0 1 1 true)]), (.int .i64 (.ofNat 0)), (.int .i64 (.ofNat 1)), (.int .i64 (.ofNat 9))]
  need := [(1000, (.cells 140 6 [.nils, (.sl 1001 0 1 1 true), (.int .i64 (.ofNat 4)), (.sl 1002 0 1 1 true), .nils, (.int .i32 (.ofNat 0))] .leaf true false none)), (1001, (.cells 157 5 [(.int .i64 (.ofNat 2)), (.int .i64 (.ofNat 1)), (.int .i64 (.ofNat 0)), (.sl 1003 0 2 2 true), (.int .i32 (.ofNat 0))] .leaf true false none)), (1002, (.cells 3 1 [(.int .i64 (.ofNat 1))] .leaf true false none)), (1003, (.cells 3 2 [(.int .i64 (.ofNat 0)), (.int .i64 (.ofNat 0))] .leaf true false none))]
  n0 := 1004
  v := (.tup [.nils, .nils, (.bool false)])
  news := []
  hi := 1068

def ent211 : Ent where
  k := 214
  args := [(.agg [(.int .i64 (.ofNat 1)), (.sl 1000 0 1 1 true)]), (.int .i64 (.ofNat 0)), (.int .i64 (.ofNat 1)), (.int .i64 (.ofNat 10))]
  need := [(1000, (.cells 140 6 [.nils, (.sl 1001 0 1 1 true), (.int .i64 (.ofNat 4)), (.sl 1002 0 1 1 true), .nils, (.int .i32 (.ofNat 0))] .leaf true false none)), (1001, (.cells 157 5 [(.int .i64 (.ofNat 2)), (.int .i64 (.ofNat 1)), (.int .i64 (.ofNat 0)), (.sl 1003 0 2 2 true), (.int .i32 (.ofNat 0))] .leaf true false none)), (1002, (.cells 3 1 [(.int .i64 (.ofNat 1))] .leaf true false none)), (1003, (.cells 3 2 [(.int .i64 (.ofNat 0)), (.int .i64 (.ofNat 0))] .leaf true false none))]
  n0 := 1004
  v := (.tup [.nils, .nils, (.bool false)])
  news := []
  hi := 1068

def ent212 : Ent where
  k := 214
  args := [(.agg [(.int .i64 (.ofNat 1)), (.sl 1000 0 1 1 true)]), (.int .i64 (.ofNat 0)), (.int .i64 (.ofNat 1)), (.int .i64 (.ofNat 11))]
  need := [(1000, (.cells 140 6 [.nils, (.sl 1001 0 1 1 true), (.int .i64 (.ofNat 4)), (.sl 1002 0 1 1 true), .nils, (.int .i32 (.ofNat 0))] .leaf true false none)), (1001, (.cells 157 5 [(.int .i64 (.ofNat 2)), (.int .i64 (.ofNat 1)), (.int .i64 (.ofNat 0)), (.sl 1003 0 2 2 true), (.int .i32 (.ofNat 0))] .leaf true false none)), (1002, (.cells 3 1 [(.int .i64 (.ofNat 1))] .leaf true false none)), (1003, (.cells 3 2 [(.int .i64 (.ofNat 0)), (.int .i64 (.ofNat 0))] .leaf true false none))]
  n0 := 1004
  v := (.tup [.nils, .nils, (.bool false)])
  news := []
  hi := 1068

def ent213 : Ent where
  k := 214
  args := [(.agg [(.int .i64 (.ofNat 1)), (.sl 1000 0 1 1 true)]), (.int .i64 (.ofNat 0)), (.int .i64 (.ofNat 1)), (.int .i64 (.ofNat 12))]
  need := [(1000, (.cells 140 6 [.nils, (.sl 1001 0 1 1 true), (.int .i64 (.ofNat 4)), (.sl 1002 0 1 1 true), .nils, (.int .i32 (.ofNat 0))] .leaf true false none)), (1001, (.cells 157 5 [(.int .i64 (.ofNat 2)), (.int .i64 (.ofNat 1)), (.int .i64 (.ofNat 0)), (.sl 1003 0 2 2 true), (.int .i32 (.ofNat 0))] .leaf true false none)), (1002, (.cells 3 1 [(.int .i64 (.ofNat 1))] .leaf true false none)), (1003, (.cells 3 2 [(.int .i64 (.ofNat 0)), (.int .i64 (.ofNat 0))] .leaf true false none))]
  n0 := 1004
  v := (.tup [.nils, .nils, (.bool false)])
  news := []
  hi := 1068

def ent214 : Ent where
  k := 214
  args := [(.agg [(.int .i64 (.ofNat 1)), (.sl 1000 0 1 1 true)]), (.int .i64 (.ofNat 0)), (.int .i64 (.ofNat 1)), (.int .i64 (.ofNat 13))]
  need := [(1000, (.cells 140 6 [.nils, (.sl 1001 0 1 1 true), (.int .i64 (.ofNat 4)), (.sl 1002 0 1 1 true), .nils, (.int .i32 (.ofNat 0))] .leaf true false none)), (1001, (.cells 157 5 [(.int .i64 (.ofNat 2)), (.int .i64 (.ofNat 1)), (.int .i64 (.ofNat 0)), (.sl 1003 0 2 2 true), (.int .i32 (.ofNat 0))] .leaf true false none)), (1002, (.cells 3 1 [(.int .i64 (.ofNat 1))] .leaf true false none)), (1003, (.cells 3 2 [(.int .i64 (.ofNat 0)), (.int .i64 (.ofNat 0))] .leaf true false none))]
  n0 := 1004
  v := (.tup [.nils, .nils, (.bool false)])
  news := []
  hi := 1068

def ent215 : Ent where
  k := 214
  args := [(.agg [(.int .i64 (.ofNat 1)), (.sl 1000 0 1 1 true)]), (.int .i64 (.ofNat 0)), (.int .i64 (.ofNat 1)), (.int .i64 (.ofNat 14))]
  need := [(1000, (.cells 140 6 [.nils, (.sl 1001 0 1 1 true), (.int .i64 (.ofNat 4)), (.sl 1002 0 1 1 true), .nils, (.int .i32 (.ofNat 0))] .leaf true false none)), (1001, (.cells 157 5 [(.int .i64 (.ofNat 2)), (.int .i64 (.ofNat 1)), (.int .i64 (.ofNat 0)), (.sl 1003 0 2 2 true), (.int .i32 (.ofNat 0))] .leaf true false none)), (1002, (.cells 3 1 [(.int .i64 (.ofNat 1))] .leaf true false none)), (1003, (.cells 3 2 [(.int .i64 (.ofNat 0)), (.int .i64 (.ofNat 0))] .leaf true false none))]
  n0 := 1004
  v := (.tup [.nils, .nils, (.bool false)])
  news := []
  hi := 1068

def ent216 : Ent where
  k := 214
  args := [(.agg [(.int .i64 (.ofNat 1)), (.sl 1000 0 1 1 true)]), (.int .i64 (.ofNat 0)), (.int .i64 (.ofNat 1)), (.int .i64 (.ofNat 15))]
  need := [(1000, (.cells 140 6 [.nils, (.sl 1001 0 1 1 true), (.int .i64 (.ofNat 4)), (.sl 1002 0 1 1 true), .nils, (.int .i32 (.ofNat 0))] .leaf true false none)), (1001, (.cells 157 5 [(.int .i64 (.ofNat 2)), (.int .i64 (.ofNat 1)), (.int .i64 (.ofNat 0)), (.sl 1003 0 2 2 true), (.int .i32 (.ofNat 0))] .leaf true false none)), (1002, (.cells 3 1 [(.int .i64 (.ofNat 1))] .leaf true false none)), (1003, (.cells 3 2 [(.int .i64 (.ofNat 0)), (.int .i64 (.ofNat 0))] .leaf true false none))]
  n0 := 1004
  v := (.tup [.nils, .nils, (.bool false)])
  news := []
  hi := 1068

def ent217 : Ent where
  k := 214
  args := [(.agg [(.int .i64 (.ofNat 1)), (.sl 1000 0 1 1 true)]), (.int .i64 (.ofNat 0)), (.int .i64 (.ofNat 1)), (.int .i64 (.ofNat 16))]
  need := [(1000, (.cells 140 6 [.nils, (.sl 1001 0 1 1 true), (.int .i64 (.ofNat 4)), (.sl 1002 0 1 1 true), .nils, (.int .i32 (.ofNat 0))] .leaf true false none)), (1001, (.cells 157 5 [(.int .i64 (.ofNat 2)), (.int .i64 (.ofNat 1)), (.int .i64 (.ofNat 0)), (.sl 1003 0 2 2 true), (.int .i32 (.ofNat 0))] .leaf true false none)), (1002, (.cells 3 1 [(.int .i64 (.ofNat 1))] .leaf true false none)), (1003, (.cells 3 2 [(.int .i64 (.ofNat 0)), (.int .i64 (.ofNat 0))] .leaf true false none))]
  n0 := 1004
  v := (.tup [.nils, .nils, (.bool false)])
  news := []
  hi := 1068

def ent218 : Ent where
  k := 214
  args := [(.agg [(.int .i64 (.ofNat 1)), (.sl 1000 0 1 1 true)]), (.int .i64 (.ofNat 0)), (.int .i64 (.ofNat 1)), (.int .i64 (.ofNat 17))]
  need := [(1000, (.cells 140 6 [.nils, (.sl 1001 0 1 1 true), (.int .i64 (.ofNat 4)), (.sl 1002 0 1 1 true), .nils, (.int .i32 (.ofNat 0))] .leaf true false none)), (1001, (.cells 157 5 [(.int .i64 (.ofNat 2)), (.int .i64 (.ofNat 1)), (.int .i64 (.ofNat 0)), (.sl 1003 0 2 2 true), (.int .i32 (.ofNat 0))] .leaf true false none)), (1002, (.cells 3 1 [(.int .i64 (.ofNat 1))] .leaf true false none)), (1003, (.cells 3 2 [(.int .i64 (.ofNat 0)), (.int .i64 (.ofNat 0))] .leaf true false none))]
  n0 := 1004
  v := (.tup [.nils, .nils, (.bool false)])
  news := []
  hi := 1068

def ent219 : Ent where
  k := 214
  args := [(.agg [(.int .i64 (.ofNat 1)), (.sl 1000 0 1 1 true)]), (.int .i64 (.ofNat 0)), (.int .i64 (.ofNat 1)), (.int .i64 (.ofNat 18))]
  need := [(1000, (.cells 140 6 [.nils, (.sl 1001 0 1 1 true), (.int .i64 (.ofNat 4)), (.sl 1002 0 1 1 true), .nils, (.int .i32 (.ofNat 0))] .leaf true false none)), (1001, (.cells 157 5 [(.int .i64 (.ofNat 2)), (.int .i64 (.ofNat 1)), (.int .i64 (.ofNat 0)), (.sl 1003 0 2 2 true), (.int .i32 (.ofNat 0))] .leaf true false none)), (1002, (.cells 3 1 [(.int .i64 (.ofNat 1))] .leaf true false none)), (1003, (.cells 3 2 [(.int .i64 (.ofNat 0)), (.int .i64 (.ofNat 0))] .leaf true false none))]
  n0 := 1004
  v := (.tup [.nils, .nils, (.bool false)])
  news := []
  hi := 1068

def ent220 : Ent where
  k := 214
  args := [(.agg [(.int .i64 (.ofNat 1)), (.sl 1000 0 1 1 true)]), (.int .i64 (.ofNat 0)), (.int .i64 (.ofNat 1)), (.int .i64 (.ofNat 19))]
  need := [(1000, (.cells 140 6 [.nils, (.sl 1001 0 1 1 true), (.int .i64 (.ofNat 4)), (.sl 1002 0 1 1 true), .nils, (.int .i32 (.ofNat 0))] .leaf true false none)), (1001, (.cells 157 5 [(.int .i64 (.ofNat 2)), (.int .i64 (.ofNat 1)), (.int .i64 (.ofNat 0)), (.sl 1003 0 2 2 true), (.int .i32 (.ofNat 0))] .leaf true false none)), (1002, (.cells 3 1 [(.int .i64 (.ofNat 1))] .leaf true false none)), (1003, (.cells 3 2 [(.int .i64 (.ofNat 0)), (.int .i64 (.ofNat 0))] .leaf true false none))]
  n0 := 1004
  v := (.tup [.nils, .nils, (.bool false)])
  news := []
  hi := 1068

def ent221 : Ent where
  k := 214
  args := [(.agg [(.int .i64 (.ofNat 1)), (.sl 1000 0 1 1 true)]), (.int .i64 (.ofNat 0)), (.int .i64 (.ofNat 1)), (.int .i64 (.ofNat 20))]
  need := [(1000, (.cells 140 6 [.nils, (.sl 1001 0 1 1 true), (.int .i64 (.ofNat 4)), (.sl 1002 0 1 1 true), .nils, (.int .i32 (.ofNat 0))] .leaf true false none)), (1001, (.cells 157 5 [(.int .i64 (.ofNat 2)), (.int .i64 (.ofNat 1)), (.int .i64 (.ofNat 0)), (.sl 1003 0 2 2 true), (.int .i32 (.ofNat 0))] .leaf true false none)), (1002, (.cells 3 1 [(.int .i64 (.ofNat 1))] .leaf true false none)), (1003, (.cells 3 2 [(.int .i64 (.ofNat 0)), (.int .i64 (.ofNat 0))] .leaf true false none))]
  n0 := 1004
  v := (.tup [.nils, .nils, (.bool false)])
  news := []
  hi := 1068

def ent222 : Ent where
  k := 214
  args := [(.agg [(.int .i64 (.ofNat 1)), (.sl 1000 0 1 1 true)]), (.int .i64 (.ofNat 0)), (.int .i64 (.ofNat 1)), (.int .i64 (.ofNat 21))]
  need := [(1000, (.cells 140 6 [.nils, (.sl 1001 0 1 1 true), (.int .i64 (.ofNat 4)), (.sl 1002 0 1 1 true), .nils, (.int .i32 (.ofNat 0))] .leaf true false none)), (1001, (.cells 157 5 [(.int .i64 (.ofNat 2)), (.int .i64 (.ofNat 1)), (.int .i64 (.ofNat 0)), (.sl 1003 0 2 2 true), (.int .i32 (.ofNat 0))] .leaf true false none)), (1002, (.cells 3 1 [(.int .i64 (.ofNat 1))] .leaf true false none)), (1003, (.cells 3 2 [(.int .i64 (.ofNat 0)), (.int .i64 (.ofNat 0))] .leaf true false none))]
  n0 := 1004
  v := (.tup [.nils, .nils, (.bool false)])
  news := []
  hi := 1068

def ent223 : Ent where
  k := 214
  args := [(.agg [(.int .i64 (.ofNat 1)), (.sl 1000 0 1 1 true)]), (.int .i64 (.ofNat 0)), (.int .i64 (.ofNat 1)), (.int .i64 (.ofNat 22))]
  need := [(1000, (.cells 140 6 [.nils, (.sl 1001 0 1 1 true), (.int .i64 (.ofNat 4)), (.sl 1002 0 1 1 true), .nils, (.int .i32 (.ofNat 0))] .leaf true false none)), (1001, (.cells 157 5 [(.int .i64 (.ofNat 2)), (.int .i64 (.ofNat 1)), (.int .i64 (.ofNat 0)), (.sl 1003 0 2 2 true), (.int .i32 (.ofNat 0))] .leaf true false none)), (1002, (.cells 3 1 [(.int .i64 (.ofNat 1))] .leaf true false none)), (1003, (.cells 3 2 [(.int .i64 (.ofNat 0)), (.int .i64 (.ofNat 0))] .leaf true false none))]
  n0 := 1004
  v := (.tup [.nils, .nils, (.bool false)])
  news := []
  hi := 1068

def ent224 : Ent where
  k := 214
  args := [(.agg [(.int .i64 (.ofNat 1)), (.sl 1000 0 1 1 true)]), (.int .i64 (.ofNat 0)), (.int .i64 (.ofNat 1)), (.int .i64 (.ofNat 23))]
  need := [(1000, (.cells 140 6 [.nils, (.sl 1001 0 1 1 true), (.int .i64 (.ofNat 4)), (.sl 1002 0 1 1 true), .nils, (.int .i32 (.ofNat 0))] .leaf true false none)), (1001, (.cells 157 5 [(.int .i64 (.ofNat 2)), (.int .i64 (.ofNat 1)), (.int .i64 (.ofNat 0)), (.sl 1003 0 2 2 true), (.int .i32 (.ofNat 0))] .leaf true false none)), (1002, (.cells 3 1 [(.int .i64 (.ofNat 1))] .leaf true false none)), (1003, (.cells 3 2 [(.int .i64 (.ofNat 0)), (.int .i64 (.ofNat 0))] .leaf true false none))]
  n0 := 1004
  v := (.tup [.nils, .nils, (.bool false)])
  news := []
  hi := 1068

def ent225 : Ent where
  k := 214
  args := [(.agg [(.int .i64 (.ofNat 1)), (.sl 1000 0 1 1 true)]), (.int .i64 (.ofNat 0)), (.int .i64 (.ofNat 1)), (.int .i64 (.ofNat 24))]
  need := [(1000, (.cells 140 6 [.nils, (.sl 1001 0 1 1 true), (.int .i64 (.ofNat 4)), (.sl 1002 0 1 1 true), .nils, (.int .i32 (.ofNat 0))] .leaf true false none)), (1001, (.cells 157 5 [(.int .i64 (.ofNat 2)), (.int .i64 (.ofNat 1)), (.int .i64 (.ofNat 0)), (.sl 1003 0 2 2 true), (.int .i32 (.ofNat 0))] .leaf true false none)), (1002, (.cells 3 1 [(.int .i64 (.ofNat 1))] .leaf true false none)), (1003, (.cells 3 2 [(.int .i64 (.ofNat 0)), (.int .i64 (.ofNat 0))] .leaf true false none))]
  n0 := 1004
  v := (.tup [.nils, .nils, (.bool false)])
  news := []
  hi := 1068

def ent226 : Ent where
  k := 214
  args := [(.agg [(.int .i64 (.ofNat 1)), (.sl 1000 0 1 1 true)]), (.int .i64 (.ofNat 0)), (.int .i64 (.ofNat 1)), (.int .i64 (.ofNat 25))]
  need := [(1000, (.cells 140 6 [.nils, (.sl 1001 0 1 1 true), (.int .i64 (.ofNat 4)), (.sl 1002 0 1 1 true), .nils, (.int .i32 (.ofNat 0))] .leaf true false none)), (1001, (.cells 157 5 [(.int .i64 (.ofNat 2)), (.int .i64 (.ofNat 1)), (.int .i64 (.ofNat 0)), (.sl 1003 0 2 2 true), (.int .i32 (.ofNat 0))] .leaf true false none)), (1002, (.cells 3 1 [(.int .i64 (.ofNat 1))] .leaf true false none)), (1003, (.cells 3 2 [(.int .i64 (.ofNat 0)), (.int .i64 (.ofNat 0))] .leaf true false none))]
  n0 := 1004
  v := (.tup [.nils, .nils, (.bool false)])
  news := []
  hi := 1068

def ent227 : Ent where
  k := 214
  args := [(.agg [(.int .i64 (.ofNat 1)), (.sl 1000 0 1 1 true)]), (.int .i64 (.ofNat 0)), (.int .i64 (.ofNat 1)), (.int .i64 (.ofNat 26))]
  need := [(1000, (.cells 140 6 [.nils, (.sl 1001 0 1 1 true), (.int .i64 (.ofNat 4)), (.sl 1002 0 1 1 true), .nils, (.int .i32 (.ofNat 0))] .leaf true false none)), (1001, (.cells 157 5 [(.int .i64 (.ofNat 2)), (.int .i64 (.ofNat 1)), (.int .i64 (.ofNat 0)), (.sl 1003 0 2 2 true), (.int .i32 (.ofNat 0))] .leaf true false none)), (1002, (.cells 3 1 [(.int .i64 (.ofNat 1))] .leaf true false none)), (1003, (.cells 3 2 [(.int .i64 (.ofNat 0)), (.int .i64 (.ofNat 0))] .leaf true false none))]
  n0 := 1004
  v := (.tup [.nils, .nils, (.bool false)])
  news := []
  hi := 1068

def ent228 : Ent where
  k := 214
  args := [(.agg [(.int .i64 (.ofNat 1)), (.sl 1000 0 1 1 true)]), (.int .i64 (.ofNat 0)), (.int .i64 (.ofNat 1)), (.int .i64 (.ofNat 27))]
  need := [(1000, (.cells 140 6 [.nils, (.sl 1001 0 1 1 true), (.int .i64 (.ofNat 4)), (.sl 1002 0 1 1 true), .nils, (.int .i32 (.ofNat 0))] .leaf true false none)), (1001, (.cells 157 5 [(.int .i64 (.ofNat 2)), (.int .i64 (.ofNat 1)), (.int .i64 (.ofNat 0)), (.sl 1003 0 2 2 true), (.int .i32 (.ofNat 0))] .leaf true false none)), (1002, (.cells 3 1 [(.int .i64 (.ofNat 1))] .leaf true false none)), (1003, (.cells 3 2 [(.int .i64 (.ofNat 0)), (.int .i64 (.ofNat 0))] .leaf true false none))]
  n0 := 1004
  v := (.tup [.nils, .nils, (.bool false)])
  news := []
  hi := 1068

def ent229 : Ent where
  k := 214
  args := [(.agg [(.int .i64 (.ofNat 1)), (.sl 1000 0 1 1 true)]), (.int .i64 (.ofNat 0)), (.int .i64 (.ofNat 1)), (.int .i64 (.ofNat 28))]
  need := [(1000, (.cells 140 6 [.nils, (.sl 1001 0 1 1 true), (.int .i64 (.ofNat 4)), (.sl 1002 0 1 1 true), .nils, (.int .i32 (.ofNat 0))] .leaf true false none)), (1001, (.cells 157 5 [(.int .i64 (.ofNat 2)), (.int .i64 (.ofNat 1)), (.int .i64 (.ofNat 0)), (.sl 1003 0 2 2 true), (.int .i32 (.ofNat 0))] .leaf true false none)), (1002, (.cells 3 1 [(.int .i64 (.ofNat 1))] .leaf true false none)), (1003, (.cells 3 2 [(.int .i64 (.ofNat 0)), (.int .i64 (.ofNat 0))] .leaf true false none))]
  n0 := 1004
  v := (.tup [.nils, .nils, (.bool false)])
  news := []
  hi := 1068

def ent230 : Ent where
  k := 214
  args := [(.agg [(.int .i64 (.ofNat 1)), (.sl 1000 0 1 1 true)]), (.int .i64 (.ofNat 0)), (.int .i64 (.ofNat 1)), (.int .i64 (.ofNat 29))]
  need := [(1000, (.cells 140 6 [.nils, (.sl 1001 0 1 1 true), (.int .i64 (.ofNat 4)), (.sl 1002 0 1 1 true), .nils, (.int .i32 (.ofNat 0))] .leaf true false none)), (1001, (.cells 157 5 [(.int .i64 (.ofNat 2)), (.int .i64 (.ofNat 1)), (.int .i64 (.ofNat 0)), (.sl 1003 0 2 2 true), (.int .i32 (.ofNat 0))] .leaf true false none)), (1002, (.cells 3 1 [(.int .i64 (.ofNat 1))] .leaf true false none)), (1003, (.cells 3 2 [(.int .i64 (.ofNat 0)), (.int .i64 (.ofNat 0))] .leaf true false none))]
  n0 := 1004
  v := (.tup [.nils, .nils, (.bool false)])
  news := []
  hi := 1068

def ent231 : Ent where
  k := 214
  args := [(.agg [(.int .i64 (.ofNat 1)), (.sl 1000 0 1 1 true)]), (.int .i64 (.ofNat 0)), (.int .i64 (.ofNat 1)), (.int .i64 (.ofNat 30))]
  need := [(1000, (.cells 140 6 [.nils, (.sl 1001 0 1 1 true), (.int .i64 (.ofNat 4)), (.sl 1002 0 1 1 true), .nils, (.int .i32 (.ofNat 0))] .leaf true false none)), (1001, (.cells 157 5 [(.int .i64 (.ofNat 2)), (.int .i64 (.ofNat 1)), (.int .i64 (.ofNat 0)), (.sl 1003 0 2 2 true), (.int .i32 (.ofNat 0))] .leaf true false none)), (1002, (.cells 3 1 [(.int .i64 (.ofNat 1))] .leaf true false none)), (1003, (.cells 3 2 [(.int .i64 (.ofNat 0)), (.int .i64 (.ofNat 0))] .leaf true false none))]
  n0 := 1004
  v := (.tup [.nils, .nils, (.bool false)])
  news := []
  hi := 1068

def ent232 : Ent where
  k := 214
  args := [(.agg [(.int .i64 (.ofNat 1)), (.sl 1000 0 1 1 true)]), (.int .i64 (.ofNat 0)), (.int .i64 (.ofNat 1)), (.int .i64 (.ofNat 31))]
  need := [(1000, (.cells 140 6 [.nils, (.sl 1001 0 1 1 true), (.int .i64 (.ofNat 4)), (.sl 1002 0 1 1 true), .nils, (.int .i32 (.ofNat 0))] .leaf true false none)), (1001, (.cells 157 5 [(.int .i64 (.ofNat 2)), (.int .i64 (.ofNat 1)), (.int .i64 (.ofNat 0)), (.sl 1003 0 2 2 true), (.int .i32 (.ofNat 0))] .leaf true false none)), (1002, (.cells 3 1 [(.int .i64 (.ofNat 1))] .leaf true false none)), (1003, (.cells 3 2 [(.int .i64 (.ofNat 0)), (.int .i64 (.ofNat 0))] .leaf true false none))]
  n0 := 1004
  v := (.tup [.nils, .nils, (.bool false)])
  news := []
  hi := 1068

def ent233 : Ent where
  k := 214
  args := [(.agg [(.int .i64 (.ofNat 1)), (.sl 1000 0 1 1 true)]), (.int .i64 (.ofNat 0)), (.int .i64 (.ofNat 1)), (.int .i64 (.ofNat 32))]
  need := [(1000, (.cells 140 6 [.nils, (.sl 1001 0 1 1 true), (.int .i64 (.ofNat 4)), (.sl 1002 0 1 1 true), .nils, (.int .i32 (.ofNat 0))] .leaf true false none)), (1001, (.cells 157 5 [(.int .i64 (.ofNat 2)), (.int .i64 (.ofNat 1)), (.int .i64 (.ofNat 0)), (.sl 1003 0 2 2 true), (.int .i32 (.ofNat 0))] .leaf true false none)), (1002, (.cells 3 1 [(.int .i64 (.ofNat 1))] .leaf true false none)), (1003, (.cells 3 2 [(.int .i64 (.ofNat 0)), (.int .i64 (.ofNat 0))] .leaf true false none))]
  n0 := 1004
  v := (.tup [.nils, .nils, (.bool false)])
  news := []
  hi := 1068

def ent234 : Ent where
  k := 214
  args := [(.agg [(.int .i64 (.ofNat 1)), (.sl 1000 0 1 1 true)]), (.int .i64 (.ofNat 0)), (.int .i64 (.ofNat 1)), (.int .i64 (.ofNat 33))]
  need := [(1000, (.cells 140 6 [.nils, (.sl 1001 0 1 1 true), (.int .i64 (.ofNat 4)), (.sl 1002 0 1 1 true), .nils, (.int .i32 (.ofNat 0))] .leaf true false none)), (1001, (.cells 157 5 [(.int .i64 (.ofNat 2)), (.int .i64 (.ofNat 1)), (.int .i64 (.ofNat 0)), (.sl 1003 0 2 2 true), (.int .i32 (.ofNat 0))] .leaf true false none)), (1002, (.cells 3 1 [(.int .i64 (.ofNat 1))] .leaf true false none)), (1003, (.cells 3 2 [(.int .i64 (.ofNat 0)), (.int .i64 (.ofNat 0))] .leaf true false none))]
  n0 := 1004
  v := (.tup [.nils, .nils, (.bool false)])
  news := []
  hi := 1068

def ent235 : Ent where
  k := 214
  args := [(.agg [(.int .i64 (.ofNat 1)), (.sl 1000 0 1 1 true)]), (.int .i64 (.ofNat 0)), (.int .i64 (.ofNat 1)), (.int .i64 (.ofNat 34))]
  need := [(1000, (.cells 140 6 [.nils, (.sl 1001 0 1 1 true), (.int .i64 (.ofNat 4)), (.sl 1002 0 1 1 true), .nils, (.int .i32 (.ofNat 0))] .leaf true false none)), (1001, (.cells 157 5 [(.int .i64 (.ofNat 2)), (.int .i64 (.ofNat 1)), (.int .i64 (.ofNat 0)), (.sl 1003 0 2 2 true), (.int .i32 (.ofNat 0))] .leaf true false none)), (1002, (.cells 3 1 [(.int .i64 (.ofNat 1))] .leaf true false none)), (1003, (.cells 3 2 [(.int .i64 (.ofNat 0)), (.int .i64 (.ofNat 0))] .leaf true false none))]
  n0 := 1004
  v := (.tup [.nils, .nils, (.bool false)])
  news := []
  hi := 1068

def ent236 : Ent where
  k := 214
  args := [(.agg [(.int .i64 (.ofNat 1)), (.sl 1000 0 1 1 true)]), (.int .i64 (.ofNat 0)), (.int .i64 (.ofNat 1)), (.int .i64 (.ofNat 35))]
  need := [(1000, (.cells 140 6 [.nils, (.sl 1001 0 1 1 true), (.int .i64 (.ofNat 4)), (.sl 1002 0 1 1 true), .nils, (.int .i32 (.ofNat 0))] .leaf true false none)), (1001, (.cells 157 5 [(.int .i64 (.ofNat 2)), (.int .i64 (.ofNat 1)), (.int .i64 (.ofNat 0)), (.sl 1003 0 2 2 true), (.int .i32 (.ofNat 0))] .leaf true false none)), (1002, (.cells 3 1 [(.int .i64 (.ofNat 1))] .leaf true false none)), (1003, (.cells 3 2 [(.int .i64 (.ofNat 0)), (.int .i64 (.ofNat 0))] .leaf true false none))]
  n0 := 1004
  v := (.tup [.nils, .nils, (.bool false)])
  news := []
  hi := 1068

def ent237 : Ent where
  k := 214
  args := [(.agg [(.int .i64 (.ofNat 1)), (.sl 1000 0 1 1 true)]), (.int .i64 (.ofNat 0)), (.int .i64 (.ofNat 1)), (.int .i64 (.ofNat 36))]
  need := [(1000, (.cells 140 6 [.nils, (.sl 1001 0 1 1 true), (.int .i64 (.ofNat 4)), (.sl 1002 0 1 1 true), .nils, (.int .i32 (.ofNat 0))] .leaf true false none)), (1001, (.cells 157 5 [(.int .i64 (.ofNat 2)), (.int .i64 (.ofNat 1)), (.int .i64 (.ofNat 0)), (.sl 1003 0 2 2 true), (.int .i32 (.ofNat 0))] .leaf true false none)), (1002, (.cells 3 1 [(.int .i64 (.ofNat 1))] .leaf true false none)), (1003, (.cells 3 2 [(.int .i64 (.ofNat 0)), (.int .i64 (.ofNat 0))] .leaf true false none))]
  n0 := 1004
  v := (.tup [.nils, .nils, (.bool false)])
  news := []
  hi := 1068

def ent238 : Ent where
  k := 214
  args := [(.agg [(.int .i64 (.ofNat 1)), (.sl 1000 0 1 1 true)]), (.int .i64 (.ofNat 0)), (.int .i64 (.ofNat 1)), (.int .i64 (.ofNat 37))]
  need := [(1000, (.cells 140 6 [.nils, (.sl 1001 0 1 1 true), (.int .i64 (.ofNat 4)), (.sl 1002 0 1 1 true), .nils, (.int .i32 (.ofNat 0))] .leaf true false none)), (1001, (.cells 157 5 [(.int .i64 (.ofNat 2)), (.int .i64 (.ofNat 1)), (.int .i64 (.ofNat 0)), (.sl 1003 0 2 2 true), (.int .i32 (.ofNat 0))] .leaf true false none)), (1002, (.cells 3 1 [(.int .i64 (.ofNat 1))] .leaf true false none)), (1003, (.cells 3 2 [(.int .i64 (.ofNat 0)), (.int .i64 (.ofNat 0))] .leaf true false none))]
  n0 := 1004
  v := (.tup [.nils, .nils, (.bool false)])
  news := []
  hi := 1068

def ent239 : Ent where
  k := 110
  args := [(.agg [(.int .i64 (.ofNat 1)), (.sl 1000 0 1 1 true)]), (.sl 1001 0 37 37 true), (.int .i64 (.ofNat 1))]
  need := [asciiObj, (1000, (.cells 140 6 [.nils, (.sl 1002 0 1 1 true), (.int .i64 (.ofNat 4)), (.sl 1003 0 1 1 true), .nils, (.int .i32 (.ofNat 0))] .leaf true false none)), (1001, (.cells 69 74 [(.int .i64 (.ofNat 1)), (.int .i64 (.ofNat 1)), (.int .i64 (.ofNat 2)), (.int .i64 (.ofNat 2)), (.int .i64 (.ofNat 3)), (.int .i64 (.ofNat 1)), (.int .i64 (.ofNat 4)), (.int .i64 (.ofNat 1)), (.int .i64 (.ofNat 5)), (.int .i64 (.ofNat 3)), (.int .i64 (.ofNat 6)), (.int .i64 (.ofNat 1)), (.int .i64 (.ofNat 7)), (.int .i64 (.ofNat 1)), (.int .i64 (.ofNat 8)), (.int .i64 (.ofNat 1)), (.int .i64 (.ofNat 9)), (.int .i64 (.ofNat 1)), (.int .i64 (.ofNat 10)), (.int .i64 (.ofNat 1)), (.int .i64 (.ofNat 11)), (.int .i64 (.ofNat 1)), (.int .i64 (.ofNat 12)), (.int .i64 (.ofNat 1)), (.int .i64 (.ofNat 13)), (.int .i64 (.ofNat 1)), (.int .i64 (.ofNat 14)), (.int .i64 (.ofNat 1)), (.int .i64 (.ofNat 15)), (.int .i64 (.ofNat 12)), (.int .i64 (.ofNat 16)), (.int .i64 (.ofNat 1)), (.int .i64 (.ofNat 17)), (.int .i64 (.ofNat 1)), (.int .i64 (.ofNat 18)), (.int .i64 (.ofNat 1)), (.int .i64 (.ofNat 19)), (.int .i64 (.ofNat 1)), (.int .i64 (.ofNat 20)), (.int .i64 (.ofNat 1)), (.int .i64 (.ofNat 21)), (.int .i64 (.ofNat 1)), (.int .i64 (.ofNat 22)), (.int .i64 (.ofNat 3)), (.int .i64 (.ofNat 23)), (.int .i64 (.ofNat 2)), (.int .i64 (.ofNat 24)), (.int .i64 (.ofNat 2)), (.int .i64 (.ofNat 25)), (.int .i64 (.ofNat 2)), (.int .i64 (.ofNat 26)), (.int .i64 (.ofNat 4)), (.int .i64 (.ofNat 27)), (.int .i64 (.ofNat 1)), (.int .i64 (.ofNat 28)), (.int .i64 (.ofNat 1)), (.int .i64 (.ofNat 29)), (.int .i64 (.ofNat 1)), (.int .i64 (.ofNat 30)), (.int .i64 (.ofNat 3)), (.int .i64 (.ofNat 31)), (.int .i64 (.ofNat 6)), (.int .i64 (.ofNat 32)), (.int .i64 (.ofNat 4)), (.int .i64 (.ofNat 33)), (.int .i64 (.ofNat 1)), (.int .i64 (.ofNat 34)), (.int .i64 (.ofNat 1)), (.int .i64 (.ofNat 35)), (.int .i64 (.ofNat 1)), (.int .i64 (.ofNat 36)), (.int .i64 (.ofNat 1)), (.int .i64 (.ofNat 37)), (.int .i64 (.ofNat 2))] .leaf true false none)), (1002, (.cells 157 5 [(.int .i64 (.ofNat 2)), (.int .i64 (.ofNat 1)), (.int .i64 (.ofNat 0)), (.sl 1004 0 2 2 true), (.int .i32 (.ofNat 0))] .leaf true false none)), (1003, (.cells 3 1 [(.int .i64 (.ofNat 1))] .leaf true false none)), (1004, (.cells 3 2 [(.int .i64 (.ofNat 0)), (.int .i64 (.ofNat 0))] .leaf true false none))]
  n0 := 1005
  v := (.bool true)
  news := []
  hi := 1379

def ent240 : Ent where
  k := 112
  args := [(.agg [(.int .i64 (.ofNat 1)), (.sl 1000 0 1 1 true)]), (.agg [(.int .i64 (.ofNat 1)), (.int .i64 (.ofNat 8)), (.int .i64 (.ofNat 0)), (.sl 1001 0 1 1 true)])]
  need := [(1000, (.cells 278 7 [.nils, (.sl 1002 0 1 1 true), (.int .i64 (.ofNat 7)), (.int .i64 (.ofNat 1)), (.int .i64 (.ofNat 0)), .nils, (.int .i32 (.ofNat 0))] .leaf true false none)), (1001, (.cells 181 6 [(.sl 1003 0 3 3 true), (.int .i64 (.ofNat 7)), (.int .i64 (.ofNat 0)), (.int .i64 (.ofNat 0)), .nils, (.int .i32 (.ofNat 0))] .leaf true false none)), (1002, (.cells 183 8 [(.int .i64 (.ofNat 5)), (.int .i64 (.ofNat 1)), (.int .i64 (.ofNat 0)), (.int .i64 (.ofNat 0)), (.int .i64 (.ofNat 0)), (.int .i64 (.ofNat 0)), (.int .i32 (.ofNat 0)), .nils] .leaf true false none)), (1003, (.cells 185 27 [(.int .i64 (.ofNat 1)), (.int .i64 (.ofNat 2)), (.int .i64 (.ofNat 0)), (.int .i64 (.ofNat 0)), (.int .i64 (.ofNat 0)), (.int .i64 (.ofNat 0)), (.int .i32 (.ofNat 0)), .nils, (.int .i64 (.negSucc 0)), (.int .i64 (.ofNat 5)), (.int .i64 (.ofNat 2)), (.int .i64 (.ofNat 0)), (.int .i64 (.ofNat 2)), (.int .i64 (.ofNat 2)), (.int .i64 (.ofNat 0)), (.int .i32 (.ofNat 0)), .nils, (.int .i64 (.ofNat 0)), (.int .i64 (.ofNat 1)), (.int .i64 (.ofNat 0)), (.int .i64 (.ofNat 0)), (.int .i64 (.ofNat 2)), (.int .i64 (.ofNat 0)), (.int .i64 (.ofNat 0)), (.int .i32 (.ofNat 0)), .nils, (.int .i64 (.negSucc 0))] .leaf true false none))]
  n0 := 1004
  v := (.tup [(.int .i64 (.ofNat 0)), (.int .i64 (.ofNat 0)), (.int .i64 (.ofNat 0))])
  news := []
  hi := 1305

def ent241 : Ent where
  k := 54
  args := [(.agg [(.int .i64 (.ofNat 1)), (.sl 1000 0 1 1 true)]), (.sl 1001 0 37 37 true), (.agg [(.int .i64 (.ofNat 8)), (.bool false), (.bool false), (.bool true), (.int .i64 (.ofNat 3)), (.int .i64 (.ofNat 9)), (.int .i64 (.ofNat 2)), (.int .i64 (.ofNat 1))]), (.agg [(.int .i64 (.ofNat 1)), (.sl 1002 0 1 1 true), (.int .i64 (.ofNat 1)), (.sl 1003 0 1 1 true), (.int .i64 (.ofNat 1)), (.int .i64 (.ofNat 1)), (.int .i64 (.ofNat 8)), (.int .i64 (.ofNat 0)), (.sl 1004 0 1 1 true), (.int .i64 (.ofNat 1)), (.int .i64 (.ofNat 8)), (.int .i64 (.ofNat 0)), (.sl 1005 0 1 1 true), (.str [1, 32, 5, 34, 32, 1, 2, 50, 1]), (.sl 1006 0 1 1 true)])]
  need := [asciiObj, (1000, (.cells 140 6 [.nils, .nils, (.int .i64 (.ofNat 0)), .nils, .nils, (.int .i32 (.ofNat 0))] (.node (.node (.node .leaf (some (.sl 1007 0 1 1 true)) .leaf) (some (.sl 1008 0 1 1 true)) (.node .leaf (some (.int .i32 (.ofNat 0))) .leaf)) none (.node (.node .leaf (some .nils) .leaf) (some (.int .i64 (.ofNat 4))) .leaf)) true false none)), (1001, (.cells 69 74 [(.int .i64 (.ofNat 1)), (.int .i64 (.ofNat 1)), (.int .i64 (.ofNat 2)), (.int .i64 (.ofNat 2)), (.int .i64 (.ofNat 3)), (.int .i64 (.ofNat 1)), (.int .i64 (.ofNat 4)), (.int .i64 (.ofNat 1)), (.int .i64 (.ofNat 5)), (.int .i64 (.ofNat 3)), (.int .i64 (.ofNat 6)), (.int .i64 (.ofNat 1)), (.int .i64 (.ofNat 7)), (.int .i64 (.ofNat 1)), (.int .i64 (.ofNat 8)), (.int .i64 (.ofNat 1)), (.int .i64 (.ofNat 9)), (.int .i64 (.ofNat 1)), (.int .i64 (.ofNat 10)), (.int .i64 (.ofNat 1)), (.int .i64 (.ofNat 11)), (.int .i64 (.ofNat 1)), (.int .i64 (.ofNat 12)), (.int .i64 (.ofNat 1)), (.int .i64 (.ofNat 13)), (.int .i64 (.ofNat 1)), (.int .i64 (.ofNat 14)), (.int .i64 (.ofNat 1)), (.int .i64 (.ofNat 15)), (.int .i64 (.ofNat 12)), (.int .i64 (.ofNat 16)), (.int .i64 (.ofNat 1)), (.int .i64 (.ofNat 17)), (.int .i64 (.ofNat 1)), (.int .i64 (.ofNat 18)), (.int .i64 (.ofNat 1)), (.int .i64 (.ofNat 19)), (.int .i64 (.ofNat 1)), (.int .i64 (.ofNat 20)), (.int .i64 (.ofNat 1)), (.int .i64 (.ofNat 21)), (.int .i64 (.ofNat 1)), (.int .i64 (.ofNat 22)), (.int .i64 (.ofNat 3)), (.int .i64 (.ofNat 23)), (.int .i64 (.ofNat 2)), (.int .i64 (.ofNat 24)), (.int .i64 (.ofNat 2)), (.int .i64 (.ofNat 25)), (.int .i64 (.ofNat 2)), (.int .i64 (.ofNat 26)), (.int .i64 (.ofNat 4)), (.int .i64 (.ofNat 27)), (.int .i64 (.ofNat 1)), (.int .i64 (.ofNat 28)), (.int .i64 (.ofNat 1)), (.int .i64 (.ofNat 29)), (.int .i64 (.ofNat 1)), (.int .i64 (.ofNat 30)), (.int .i64 (.ofNat 3)), (.int .i64 (.ofNat 31)), (.int .i64 (.ofNat 6)), (.int .i64 (.ofNat 32)), (.int .i64 (.ofNat 4)), (.int .i64 (.ofNat 33)), (.int .i64 (.ofNat 1)), (.int .i64 (.ofNat 34)), (.int .i64 (.ofNat 1)), (.int .i64 (.ofNat 35)), (.int .i64 (.ofNat 1)), (.int .i64 (.ofNat 36)), (.int .i64 (.ofNat 1)), (.int .i64 (.ofNat 37)), (.int .i64 (.ofNat 2))] .leaf true false none)), (1002, (.cells 140 6 [.nils, (.sl 1009 0 1 1 true), (.int .i64 (.ofNat 4)), (.sl 1010 0 1 1 true), .nils, (.int .i32 (.ofNat 0))] .leaf true false none)), (1003, (.cells 278 7 [.nils, (.sl 1011 0 1 1 true), (.int .i64 (.ofNat 7)), (.int .i64 (.ofNat 1)), (.int .i64 (.ofNat 0)), .nils, (.int .i32 (.ofNat 0))] .leaf true false none)), (1004, (.cells 181 6 [(.sl 1012 0 3 3 true), (.int .i64 (.ofNat 7)), (.int .i64 (.ofNat 0)), (.int .i64 (.ofNat 0)), .nils, (.int .i32 (.ofNat 0))] .leaf true false none)), (1005, (.cells 181 6 [(.sl 1013 0 3 3 true), (.int .i64 (.ofNat 7)), (.int .i64 (.ofNat 0)), (.int .i64 (.ofNat 0)), .nils, (.int .i32 (.ofNat 0))] .leaf true false none)), (1006, (.cells 3 1 [(.int .i64 (.ofNat 0))] .leaf true false none)), (1007, (.cells 3 1 [(.int .i64 (.ofNat 1))] .leaf true false none)), (1008, (.cells 157 5 [(.int .i64 (.ofNat 2)), (.int .i64 (.ofNat 1)), (.int .i64 (.ofNat 0)), (.sl 1014 1 2 2 false), (.int .i32 (.ofNat 0))] .leaf true false none)), (1009, (.cells 157 5 [(.int .i64 (.ofNat 2)), (.int .i64 (.ofNat 1)), (.int .i64 (.ofNat 0)), (.sl 1015 0 2 2 true), (.int .i32 (.ofNat 0))] .leaf true false none)), (1010, (.cells 3 1 [(.int .i64 (.ofNat 1))] .leaf true false none)), (1011, (.cells 183 8 [(.int .i64 (.ofNat 5)), (.int .i64 (.ofNat 1)), (.int .i64 (.ofNat 0)), (.int .i64 (.ofNat 0)), (.int .i64 (.ofNat 0)), (.int .i64 (.ofNat 0)), (.int .i32 (.ofNat 0)), .nils] .leaf true false none)), (1012, (.cells 185 27 [(.int .i64 (.ofNat 1)), (.int .i64 (.ofNat 2)), (.int .i64 (.ofNat 0)), (.int .i64 (.ofNat 0)), (.int .i64 (.ofNat 0)), (.int .i64 (.ofNat 0)), (.int .i32 (.ofNat 0)), .nils, (.int .i64 (.negSucc 0)), (.int .i64 (.ofNat 5)), (.int .i64 (.ofNat 2)), (.int .i64 (.ofNat 0)), (.int .i64 (.ofNat 2)), (.int .i64 (.ofNat 2)), (.int .i64 (.ofNat 0)), (.int .i32 (.ofNat 0)), .nils, (.int .i64 (.ofNat 0)), (.int .i64 (.ofNat 1)), (.int .i64 (.ofNat 0)), (.int .i64 (.ofNat 0)), (.int .i64 (.ofNat 2)), (.int .i64 (.ofNat 0)), (.int .i64 (.ofNat 0)), (.int .i32 (.ofNat 0)), .nils, (.int .i64 (.negSucc 0))] .leaf true false none)), (1013, (.cells 185 27 [(.int .i64 (.ofNat 1)), (.int .i64 (.ofNat 2)), (.int .i64 (.ofNat 0)), (.int .i64 (.ofNat 0)), (.int .i64 (.ofNat 0)), (.int .i64 (.ofNat 0)), (.int .i32 (.ofNat 0)), .nils, (.int .i64 (.negSucc 0)), (.int .i64 (.ofNat 5)), (.int .i64 (.ofNat 2)), (.int .i64 (.ofNat 0)), (.int .i64 (.ofNat 2)), (.int .i64 (.ofNat 2)), (.int .i64 (.ofNat 0)), (.int .i32 (.ofNat 0)), .nils, (.int .i64 (.ofNat 0)), (.int .i64 (.ofNat 1)), (.int .i64 (.ofNat 0)), (.int .i64 (.ofNat 0)), (.int .i64 (.ofNat 2)), (.int .i64 (.ofNat 0)), (.int .i64 (.ofNat 0)), (.int .i32 (.ofNat 0)), .nils, (.int .i64 (.negSucc 0))] .leaf true false none)), (1014, (.cells 3 3 [(.int .i64 (.ofNat 1)), (.int .i64 (.ofNat 0)), (.int .i64 (.ofNat 0))] .leaf true false none)), (1015, (.cells 3 2 [(.int .i64 (.ofNat 0)), (.int .i64 (.ofNat 0))] .leaf true false none))]
  n0 := 1016
  v := (.tup [(.int .i64 (.ofNat 0)), (.int .i64 (.ofNat 0))])
  news := []
  hi := 3617

def dq (k : Nat) : Bool := match Nat.beq k 66 with | true => true | false => Nat.beq k 460
def vol (k : Nat) : Option Vh := match Nat.beq k 213 with
  | true => some (.mapIn 4 [12])
  | false => match Nat.beq k 482 with | true => some (.tmp 8 []) | false => none
def L0 : List Ent := []
def L1 : List Ent := [ent0, ent1, ent2, ent4, ent5, ent44, ent47, ent87, ent94, ent95, ent96, ent97, ent98, ent99, ent100, ent101, ent102, ent103, ent104, ent105, ent106, ent107, ent108, ent109, ent110, ent111, ent112, ent113, ent114, ent115, ent121]
def L2 : List Ent := [ent0, ent1, ent2, ent3, ent4, ent5, ent6, ent7, ent8, ent9, ent10, ent11, ent12, ent13, ent14, ent15, ent16, ent17, ent18, ent19, ent20, ent21, ent22, ent23, ent24, ent25, ent26, ent27, ent28, ent29, ent30, ent31, ent32, ent33, ent34, ent35, ent36, ent37, ent38, ent39, ent40, ent41, ent42, ent44, ent45, ent46, ent47, ent86, ent87, ent89, ent94, ent95, ent96, ent97, ent98, ent99, ent100, ent101, ent102, ent103, ent104, ent105, ent106, ent107, ent108, ent109, ent110, ent111, ent112, ent113, ent114, ent115, ent116, ent120, ent121]
def L3 : List Ent := [ent0, ent1, ent2, ent3, ent4, ent5, ent6, ent7, ent8, ent9, ent10, ent11, ent12, ent13, ent14, ent15, ent16, ent17, ent18, ent19, ent20, ent21, ent22, ent23, ent24, ent25, ent26, ent27, ent28, ent29, ent30, ent31, ent32, ent33, ent34, ent35, ent36, ent37, ent38, ent39, ent40, ent41, ent42, ent43, ent44, ent45, ent46, ent47, ent49, ent50, ent51, ent52, ent53, ent54, ent55, ent56, ent57, ent58, ent59, ent60, ent61, ent62, ent63, ent64, ent65, ent66, ent67, ent68, ent69, ent70, ent71, ent72, ent73, ent74, ent75, ent76, ent77, ent78, ent79, ent80, ent81, ent82, ent83, ent84, ent85, ent86, ent87, ent88, ent89, ent90, ent92, ent93, ent94, ent95, ent96, ent97, ent98, ent99, ent100, ent101, ent102, ent103, ent104, ent105, ent106, ent107, ent108, ent109, ent110, ent111, ent112, ent113, ent114, ent115, ent116, ent117, ent119, ent120, ent121, ent122, ent123, ent124, ent125, ent126, ent127, ent128, ent129, ent130, ent131, ent132, ent133, ent134, ent135, ent136, ent137, ent138, ent139, ent140, ent141, ent142, ent143, ent144, ent145, ent146, ent147, ent148, ent149, ent150, ent151, ent152, ent153, ent154, ent155, ent156, ent157, ent158, ent159, ent161, ent162, ent163, ent164, ent165, ent166, ent167, ent168, ent169, ent170, ent171, ent172, ent173, ent174, ent175, ent176, ent177, ent178, ent179, ent180, ent181, ent182, ent183, ent184, ent185, ent186, ent187, ent188, ent189, ent190, ent191, ent192, ent193, ent194, ent195, ent196, ent197, ent198, ent199, ent201, ent202, ent203, ent204, ent205, ent206, ent207, ent208, ent209, ent210, ent211, ent212, ent213, ent214, ent215, ent216, ent217, ent218, ent219, ent220, ent221, ent222, ent223, ent224, ent225, ent226, ent227, ent228, ent229, ent230, ent231, ent232, ent233, ent234, ent235, ent236, ent237, ent238, ent240]
def L4 : List Ent := [ent0, ent1, ent2, ent3, ent4, ent5, ent6, ent7, ent8, ent9, ent10, ent11, ent12, ent13, ent14, ent15, ent16, ent17, ent18, ent19, ent20, ent21, ent22, ent23, ent24, ent25, ent26, ent27, ent28, ent29, ent30, ent31, ent32, ent33, ent34, ent35, ent36, ent37, ent38, ent39, ent40, ent41, ent42, ent43, ent44, ent45, ent46, ent47, ent48, ent49, ent50, ent51, ent52, ent53, ent54, ent55, ent56, ent57, ent58, ent59, ent60, ent61, ent62, ent63, ent64, ent65, ent66, ent67, ent68, ent69, ent70, ent71, ent72, ent73, ent74, ent75, ent76, ent77, ent78, ent79, ent80, ent81, ent82, ent83, ent84, ent85, ent86, ent87, ent88, ent89, ent90, ent92, ent93, ent94, ent95, ent96, ent97, ent98, ent99, ent100, ent101, ent102, ent103, ent104, ent105, ent106, ent107, ent108, ent109, ent110, ent111, ent112, ent113, ent114, ent115, ent116, ent117, ent119, ent120, ent121, ent122, ent123, ent124, ent125, ent126, ent127, ent128, ent129, ent130, ent131, ent132, ent133, ent134, ent135, ent136, ent137, ent138, ent139, ent140, ent141, ent142, ent143, ent144, ent145, ent146, ent147, ent148, ent149, ent150, ent151, ent152, ent153, ent154, ent155, ent156, ent157, ent158, ent159, ent160, ent161, ent162, ent163, ent164, ent165, ent166, ent167, ent168, ent169, ent170, ent171, ent172, ent173, ent174, ent175, ent176, ent177, ent178, ent179, ent180, ent181, ent182, ent183, ent184, ent185, ent186, ent187, ent188, ent189, ent190, ent191, ent192, ent193, ent194, ent195, ent196, ent197, ent198, ent199, ent201, ent202, ent203, ent204, ent205, ent206, ent207, ent208, ent209, ent210, ent211, ent212, ent213, ent214, ent215, ent216, ent217, ent218, ent219, ent220, ent221, ent222, ent223, ent224, ent225, ent226, ent227, ent228, ent229, ent230, ent231, ent232, ent233, ent234, ent235, ent236, ent237, ent238, ent240]
def L5 : List Ent := [ent0, ent1, ent2, ent3, ent4, ent5, ent6, ent7, ent8, ent9, ent10, ent11, ent12, ent13, ent14, ent15, ent16, ent17, ent18, ent19, ent20, ent21, ent22, ent23, ent24, ent25, ent26, ent27, ent28, ent29, ent30, ent31, ent32, ent33, ent34, ent35, ent36, ent37, ent38, ent39, ent40, ent41, ent42, ent43, ent44, ent45, ent46, ent47, ent48, ent49, ent50, ent51, ent52, ent53, ent54, ent55, ent56, ent57, ent58, ent59, ent60, ent61, ent62, ent63, ent64, ent65, ent66, ent67, ent68, ent69, ent70, ent71, ent72, ent73, ent74, ent75, ent76, ent77, ent78, ent79, ent80, ent81, ent82, ent83, ent84, ent85, ent86, ent87, ent88, ent89, ent90, ent91, ent92, ent93, ent94, ent95, ent96, ent97, ent98, ent99, ent100, ent101, ent102, ent103, ent104, ent105, ent106, ent107, ent108, ent109, ent110, ent111, ent112, ent113, ent114, ent115, ent116, ent117, ent119, ent120, ent121, ent122, ent123, ent124, ent125, ent126, ent127, ent128, ent129, ent130, ent131, ent132, ent133, ent134, ent135, ent136, ent137, ent138, ent139, ent140, ent141, ent142, ent143, ent144, ent145, ent146, ent147, ent148, ent149, ent150, ent151, ent152, ent153, ent154, ent155, ent156, ent157, ent158, ent159, ent160, ent161, ent162, ent163, ent164, ent165, ent166, ent167, ent168, ent169, ent170, ent171, ent172, ent173, ent174, ent175, ent176, ent177, ent178, ent179, ent180, ent181, ent182, ent183, ent184, ent185, ent186, ent187, ent188, ent189, ent190, ent191, ent192, ent193, ent194, ent195, ent196, ent197, ent198, ent199, ent200, ent201, ent202, ent203, ent204, ent205, ent206, ent207, ent208, ent209, ent210, ent211, ent212, ent213, ent214, ent215, ent216, ent217, ent218, ent219, ent220, ent221, ent222, ent223, ent224, ent225, ent226, ent227, ent228, ent229, ent230, ent231, ent232, ent233, ent234, ent235, ent236, ent237, ent238, ent239, ent240]
def L6 : List Ent := [ent0, ent1, ent2, ent3, ent4, ent5, ent6, ent7, ent8, ent9, ent10, ent11, ent12, ent13, ent14, ent15, ent16, ent17, ent18, ent19, ent20, ent21, ent22, ent23, ent24, ent25, ent26, ent27, ent28, ent29, ent30, ent31, ent32, ent33, ent34, ent35, ent36, ent37, ent38, ent39, ent40, ent41, ent42, ent43, ent44, ent45, ent46, ent47, ent48, ent49, ent50, ent51, ent52, ent53, ent54, ent55, ent56, ent57, ent58, ent59, ent60, ent61, ent62, ent63, ent64, ent65, ent66, ent67, ent68, ent69, ent70, ent71, ent72, ent73, ent74, ent75, ent76, ent77, ent78, ent79, ent80, ent81, ent82, ent83, ent84, ent85, ent86, ent87, ent88, ent89, ent90, ent91, ent92, ent93, ent94, ent95, ent96, ent97, ent98, ent99, ent100, ent101, ent102, ent103, ent104, ent105, ent106, ent107, ent108, ent109, ent110, ent111, ent112, ent113, ent114, ent115, ent116, ent117, ent118, ent119, ent120, ent121, ent122, ent123, ent124, ent125, ent126, ent127, ent128, ent129, ent130, ent131, ent132, ent133, ent134, ent135, ent136, ent137, ent138, ent139, ent140, ent141, ent142, ent143, ent144, ent145, ent146, ent147, ent148, ent149, ent150, ent151, ent152, ent153, ent154, ent155, ent156, ent157, ent158, ent159, ent160, ent161, ent162, ent163, ent164, ent165, ent166, ent167, ent168, ent169, ent170, ent171, ent172, ent173, ent174, ent175, ent176, ent177, ent178, ent179, ent180, ent181, ent182, ent183, ent184, ent185, ent186, ent187, ent188, ent189, ent190, ent191, ent192, ent193, ent194, ent195, ent196, ent197, ent198, ent199, ent200, ent201, ent202, ent203, ent204, ent205, ent206, ent207, ent208, ent209, ent210, ent211, ent212, ent213, ent214, ent215, ent216, ent217, ent218, ent219, ent220, ent221, ent222, ent223, ent224, ent225, ent226, ent227, ent228, ent229, ent230, ent231, ent232, ent233, ent234, ent235, ent236, ent237, ent238, ent239, ent240, ent241]
def O0 : Orc := ⟨dq, caL L0, vol⟩
def O1 : Orc := ⟨dq, caL L1, vol⟩
def O2 : Orc := ⟨dq, caL L2, vol⟩
def O3 : Orc := ⟨dq, caL L3, vol⟩
def O4 : Orc := ⟨dq, caL L4, vol⟩
def O5 : Orc := ⟨dq, caL L5, vol⟩
def O6 : Orc := ⟨dq, caL L6, vol⟩
def H0 : H := ⟨putObjs [asciiObj] .leaf, 1000, 1000, 1000⟩
def isTrue (l : List Out) : Bool := match l with
  | [.val (.bool true) _] => true
  | _ => false
end Go.Proofs.YtkapnepkkeaiaaaGreatDoor

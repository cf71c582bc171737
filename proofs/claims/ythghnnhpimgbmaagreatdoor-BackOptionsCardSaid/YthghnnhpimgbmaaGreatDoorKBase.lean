/- What some calls of this program come to, and the start. -/
import Derived.Test.YthghnnhpimgbmaaGreatDoorProg
import Derived.KernelRfl
import Derived.Test.YthghnnhpimgbmaaGreatDoorX5
import Derived.Test.YthghnnhpimgbmaaGreatDoorX5
namespace Go.Proofs.YthghnnhpimgbmaaGreatDoor
open Sx
def asciiObj : Nat × Sx.Obj := (0, .cells 457 256 [.int .u8 (.ofNat 0)] (.node (.node (.node .leaf none (.node .leaf (some (.int .u8 (.ofNat 1))) .leaf)) none (.node (.node .leaf (some (.int .u8 (.ofNat 1))) .leaf) none (.node .leaf (some (.int .u8 (.ofNat 1))) .leaf))) none (.node (.node (.node (.node (.node .leaf (some (.int .u8 (.ofNat 1))) .leaf) none .leaf) none .leaf) none (.node .leaf (some (.int .u8 (.ofNat 1))) .leaf)) none (.node (.node .leaf (some (.int .u8 (.ofNat 1))) .leaf) none .leaf))) false true none)
def entAll : Ent where
  k := 9
  args := []
  need := []
  n0 := 1000
  v := (.sl 1074 0 37 37 true)
  news := [(1074, (.cells 80 74 [(.int .i64 (.ofNat 1)), (.int .i64 (.ofNat 1)), (.int .i64 (.ofNat 2)), (.int .i64 (.ofNat 2)), (.int .i64 (.ofNat 3)), (.int .i64 (.ofNat 1)), (.int .i64 (.ofNat 4)), (.int .i64 (.ofNat 1)), (.int .i64 (.ofNat 5)), (.int .i64 (.ofNat 3)), (.int .i64 (.ofNat 6)), (.int .i64 (.ofNat 1)), (.int .i64 (.ofNat 7)), (.int .i64 (.ofNat 1)), (.int .i64 (.ofNat 8)), (.int .i64 (.ofNat 1)), (.int .i64 (.ofNat 9)), (.int .i64 (.ofNat 1)), (.int .i64 (.ofNat 10)), (.int .i64 (.ofNat 1)), (.int .i64 (.ofNat 11)), (.int .i64 (.ofNat 1)), (.int .i64 (.ofNat 12)), (.int .i64 (.ofNat 1)), (.int .i64 (.ofNat 13)), (.int .i64 (.ofNat 1)), (.int .i64 (.ofNat 14)), (.int .i64 (.ofNat 1)), (.int .i64 (.ofNat 15)), (.int .i64 (.ofNat 12)), (.int .i64 (.ofNat 16)), (.int .i64 (.ofNat 1)), (.int .i64 (.ofNat 17)), (.int .i64 (.ofNat 1)), (.int .i64 (.ofNat 18)), (.int .i64 (.ofNat 1)), (.int .i64 (.ofNat 19)), (.int .i64 (.ofNat 1)), (.int .i64 (.ofNat 20)), (.int .i64 (.ofNat 1)), (.int .i64 (.ofNat 21)), (.int .i64 (.ofNat 1)), (.int .i64 (.ofNat 22)), (.int .i64 (.ofNat 3)), (.int .i64 (.ofNat 23)), (.int .i64 (.ofNat 2)), (.int .i64 (.ofNat 24)), (.int .i64 (.ofNat 2)), (.int .i64 (.ofNat 25)), (.int .i64 (.ofNat 2)), (.int .i64 (.ofNat 26)), (.int .i64 (.ofNat 4)), (.int .i64 (.ofNat 27)), (.int .i64 (.ofNat 1)), (.int .i64 (.ofNat 28)), (.int .i64 (.ofNat 1)), (.int .i64 (.ofNat 29)), (.int .i64 (.ofNat 1)), (.int .i64 (.ofNat 30)), (.int .i64 (.ofNat 3)), (.int .i64 (.ofNat 31)), (.int .i64 (.ofNat 6)), (.int .i64 (.ofNat 32)), (.int .i64 (.ofNat 4)), (.int .i64 (.ofNat 33)), (.int .i64 (.ofNat 1)), (.int .i64 (.ofNat 34)), (.int .i64 (.ofNat 1)), (.int .i64 (.ofNat 35)), (.int .i64 (.ofNat 1)), (.int .i64 (.ofNat 36)), (.int .i64 (.ofNat 1)), (.int .i64 (.ofNat 37)), (.int .i64 (.ofNat 2))] .leaf true false (some 1072)))]
  hi := 1075

def entSplit : Ent where
  k := 16
  args := [(.agg [(.int .i64 (.ofNat 1)), (.sl 1003 0 1 1 false)])]
  need := [(1000, (.cells 3 2 [(.int .i64 (.ofNat 0)), (.int .i64 (.ofNat 0))] .leaf false false none)), (1001, (.cells 33 5 [(.int .i64 (.ofNat 2)), (.int .i64 (.ofNat 1)), (.int .i64 (.ofNat 0)), (.sl 1000 0 2 2 false), (.int .i32 (.ofNat 0))] .leaf false false none)), (1002, (.cells 3 1 [(.int .i64 (.ofNat 1))] .leaf false false none)), (1003, (.cells 39 6 [.nils, (.sl 1001 0 1 1 false), (.int .i64 (.ofNat 4)), (.sl 1002 0 1 1 false), .nils, (.int .i32 (.ofNat 0))] .leaf false false none))]
  n0 := 1004
  v := (.tup [(.agg [(.int .i64 (.ofNat 1)), (.sl 1091 0 1 1 true)]), (.int .i64 (.ofNat 0))])
  news := [(1085, (.cells 3 2 [(.int .i64 (.ofNat 0)), (.int .i64 (.ofNat 0))] .leaf true false none)), (1087, (.cells 33 5 [(.int .i64 (.ofNat 2)), (.int .i64 (.ofNat 1)), (.int .i64 (.ofNat 0)), (.sl 1085 0 2 2 true), (.int .i32 (.ofNat 0))] .leaf true false none)), (1089, (.cells 3 1 [(.int .i64 (.ofNat 1))] .leaf true false none)), (1091, (.cells 39 6 [.nils, (.sl 1087 0 1 1 true), (.int .i64 (.ofNat 4)), (.sl 1089 0 1 1 true), .nils, (.int .i32 (.ofNat 0))] .leaf true false none))]
  hi := 1094

def entNames : Ent where
  k := 243
  args := [(.str [108, 105, 32, 108, 105, 119, 32, 97, 100, 100, 32, 115, 117, 98, 32, 109, 117, 108, 32, 97, 110, 100, 32, 111, 114, 32, 120, 111, 114, 32, 115, 104, 108, 32, 115, 104, 114, 32, 115, 97, 114, 32, 101, 113, 32, 108, 116, 32, 108, 116, 117, 32, 100, 105, 118, 32, 97, 100, 100, 105, 32, 115, 117, 98, 105, 32, 97, 110, 100, 105, 32, 115, 104, 108, 105, 32, 115, 104, 114, 105, 32, 115, 97, 114, 105, 32, 109, 97, 100, 100, 32, 108, 100, 32, 108, 100, 97, 32, 108, 100, 120, 32, 108, 100, 108, 32, 115, 116, 32, 115, 116, 97, 32, 115, 116, 120, 32, 115, 116, 108, 32, 99, 97, 108, 108, 32, 109, 117, 108, 119, 32, 98, 110, 122, 32, 98, 101, 113, 32, 98, 108, 116, 32, 98, 108, 116, 117, 32, 106, 116])]
  need := [asciiObj]
  n0 := 1000
  v := (.sl 1000 0 37 37 false)
  news := [(1000, (.cells 9 37 [(.str [])] (.node (.node (.node (.node (.node (.node .leaf (some (.str [109, 117, 108, 119])) .leaf) (some (.str [97, 100, 100, 105])) .leaf) (some (.str [120, 111, 114])) (.node .leaf (some (.str [108, 100, 97])) .leaf)) (some (.str [115, 117, 98])) (.node (.node (.node .leaf (some (.str [98, 108, 116, 117])) .leaf) (some (.str [115, 104, 114, 105])) .leaf) (some (.str [101, 113])) (.node .leaf (some (.str [115, 116, 97])) .leaf))) (some (.str [108, 105, 119])) (.node (.node (.node (.node .leaf (some (.str [98, 101, 113])) .leaf) (some (.str [97, 110, 100, 105])) .leaf) (some (.str [115, 104, 114])) (.node .leaf (some (.str [108, 100, 108])) .leaf)) (some (.str [97, 110, 100])) (.node (.node .leaf (some (.str [109, 97, 100, 100])) .leaf) (some (.str [108, 116, 117])) (.node .leaf (some (.str [115, 116, 108])) .leaf)))) (some (.str [108, 105])) (.node (.node (.node (.node (.node .leaf (some (.str [98, 110, 122])) .leaf) (some (.str [115, 117, 98, 105])) .leaf) (some (.str [115, 104, 108])) (.node .leaf (some (.str [108, 100, 120])) .leaf)) (some (.str [109, 117, 108])) (.node (.node (.node .leaf (some (.str [106, 116])) .leaf) (some (.str [115, 97, 114, 105])) .leaf) (some (.str [108, 116])) (.node .leaf (some (.str [115, 116, 120])) .leaf))) (some (.str [97, 100, 100])) (.node (.node (.node (.node .leaf (some (.str [98, 108, 116])) .leaf) (some (.str [115, 104, 108, 105])) .leaf) (some (.str [115, 97, 114])) (.node .leaf (some (.str [115, 116])) .leaf)) (some (.str [111, 114])) (.node (.node .leaf (some (.str [108, 100])) .leaf) (some (.str [100, 105, 118])) (.node .leaf (some (.str [99, 97, 108, 108])) .leaf))))) false false none))]
  hi := 1001

def entRight : Ent where
  k := 96
  args := [(.agg [(.int .i64 (.ofNat 1)), (.sl 1183 0 1 1 true)])]
  need := [(1177, (.cells 3 2 [(.int .i64 (.ofNat 0)), (.int .i64 (.ofNat 0))] .leaf true false none)), (1179, (.cells 33 5 [(.int .i64 (.ofNat 2)), (.int .i64 (.ofNat 1)), (.int .i64 (.ofNat 0)), (.sl 1177 0 2 2 true), (.int .i32 (.ofNat 0))] .leaf true false none)), (1181, (.cells 3 1 [(.int .i64 (.ofNat 1))] .leaf true false none)), (1183, (.cells 39 6 [.nils, (.sl 1179 0 1 1 true), (.int .i64 (.ofNat 4)), (.sl 1181 0 1 1 true), .nils, (.int .i32 (.ofNat 0))] .leaf true false none))]
  n0 := 1184
  v := (.bool true)
  news := []
  hi := 1237

def entPat0 : Ent where
  k := 229
  args := [(.agg [(.int .i64 (.ofNat 1)), (.sl 1183 0 1 1 true), (.int .i64 (.ofNat 2)), (.int .i64 (.ofNat 1)), (.int .i64 (.ofNat 0)), (.sl 1177 0 2 2 true), (.int .i32 (.ofNat 0)), (.int .i64 (.ofNat 0)), .nils, .nils, (.int .i32 (.ofNat 0)), (.bool false), (.int .i64 (.ofNat 0))])]
  need := [(1177, (.cells 3 2 [(.int .i64 (.ofNat 0)), (.int .i64 (.ofNat 0))] .leaf true false none)), (1179, (.cells 33 5 [(.int .i64 (.ofNat 2)), (.int .i64 (.ofNat 1)), (.int .i64 (.ofNat 0)), (.sl 1177 0 2 2 true), (.int .i32 (.ofNat 0))] .leaf true false none)), (1181, (.cells 3 1 [(.int .i64 (.ofNat 1))] .leaf true false none)), (1183, (.cells 39 6 [.nils, (.sl 1179 0 1 1 true), (.int .i64 (.ofNat 4)), (.sl 1181 0 1 1 true), .nils, (.int .i32 (.ofNat 0))] .leaf true false none))]
  n0 := 1184
  v := (.map 1187)
  news := [(1184, (.cells 212 13 [(.int .i64 (.ofNat 1)), (.sl 1183 0 1 1 true), (.int .i64 (.ofNat 2)), (.int .i64 (.ofNat 1)), (.int .i64 (.ofNat 0)), (.sl 1177 0 2 2 true), (.int .i32 (.ofNat 0)), (.int .i64 (.ofNat 0)), .nils, .nils, (.int .i32 (.ofNat 0)), (.bool false), (.int .i64 (.ofNat 0))] .leaf false false none)), (1185, (.cells 33 5 [(.int .i64 (.ofNat 0)), (.int .i64 (.ofNat 0)), (.int .i64 (.ofNat 0)), .nils, (.int .i32 (.ofNat 0))] (.node (.node (.node .leaf (some (.sl 1177 0 2 2 true)) .leaf) (some (.int .i64 (.ofNat 1))) .leaf) (some (.int .i64 (.ofNat 2))) (.node (.node .leaf (some (.int .i32 (.ofNat 0))) .leaf) (some (.int .i64 (.ofNat 0))) .leaf)) false false none)), (1186, (.cells 366 1 [.nilf] (.node .leaf (some (.fn 343 [] [])) .leaf) false false none)), (1187, (.map [⟨(.int .i64 (.ofNat 1)), (.fn 343 [] []), 0⟩, ⟨(.int .i64 (.ofNat 2)), (.fn 343 [] []), 1⟩, ⟨(.int .i64 (.ofNat 3)), (.fn 348 [] [(.ptr 1190 0), (.ptr 1185 0)]), 2⟩, ⟨(.int .i64 (.ofNat 4)), (.fn 343 [] []), 3⟩, ⟨(.int .i64 (.ofNat 5)), (.fn 343 [] []), 4⟩, ⟨(.int .i64 (.ofNat 6)), (.fn 343 [] []), 5⟩, ⟨(.int .i64 (.ofNat 7)), (.fn 343 [] []), 6⟩, ⟨(.int .i64 (.ofNat 8)), (.fn 343 [] []), 7⟩, ⟨(.int .i64 (.ofNat 9)), (.fn 343 [] []), 8⟩, ⟨(.int .i64 (.ofNat 10)), (.fn 343 [] []), 9⟩, ⟨(.int .i64 (.ofNat 11)), (.fn 343 [] []), 10⟩, ⟨(.int .i64 (.ofNat 12)), (.fn 343 [] []), 11⟩, ⟨(.int .i64 (.ofNat 13)), (.fn 343 [] []), 12⟩, ⟨(.int .i64 (.ofNat 14)), (.fn 343 [] []), 13⟩, ⟨(.int .i64 (.ofNat 15)), (.fn 343 [] []), 14⟩, ⟨(.int .i64 (.ofNat 16)), (.fn 350 [] [(.ptr 1184 0), (.ptr 1185 0), (.ptr 1205 0), (.ptr 1206 0), (.ptr 1204 0), (.ptr 1207 0)]), 15⟩, ⟨(.int .i64 (.ofNat 17)), (.fn 343 [] []), 16⟩, ⟨(.int .i64 (.ofNat 18)), (.fn 343 [] []), 17⟩, ⟨(.int .i64 (.ofNat 19)), (.fn 343 [] []), 18⟩, ⟨(.int .i64 (.ofNat 20)), (.fn 343 [] []), 19⟩, ⟨(.int .i64 (.ofNat 21)), (.fn 343 [] []), 20⟩, ⟨(.int .i64 (.ofNat 22)), (.fn 352 [] [(.ptr 1184 0), (.ptr 1185 0), (.ptr 1186 0)]), 21⟩, ⟨(.int .i64 (.ofNat 23)), (.fn 343 [] []), 22⟩, ⟨(.int .i64 (.ofNat 24)), (.fn 343 [] []), 23⟩, ⟨(.int .i64 (.ofNat 25)), (.fn 343 [] []), 24⟩, ⟨(.int .i64 (.ofNat 26)), (.fn 343 [] []), 25⟩, ⟨(.int .i64 (.ofNat 27)), (.fn 343 [] []), 26⟩, ⟨(.int .i64 (.ofNat 28)), (.fn 343 [] []), 27⟩, ⟨(.int .i64 (.ofNat 29)), (.fn 343 [] []), 28⟩, ⟨(.int .i64 (.ofNat 30)), (.fn 343 [] []), 29⟩, ⟨(.int .i64 (.ofNat 31)), (.fn 343 [] []), 30⟩, ⟨(.int .i64 (.ofNat 32)), (.fn 343 [] []), 31⟩] 32)), (1190, (.cells 3 1 [(.int .i64 (.ofNat 0))] (.node .leaf (some (.int .i64 (.ofNat 2))) .leaf) false false none)), (1204, (.cells 3 1 [(.int .i64 (.ofNat 18))] .leaf false false none)), (1205, (.cells 3 1 [(.int .i64 (.negSucc 127))] .leaf false false none)), (1206, (.cells 3 1 [(.int .i64 (.ofNat 127))] .leaf false false none)), (1207, (.cells 3 1 [(.int .i64 (.ofNat 1))] .leaf false false none))]
  hi := 1243

def entCov : Ent where
  k := 35
  args := [(.sl 1082 0 37 37 true), (.agg [(.int .i64 (.ofNat 1)), (.sl 1183 0 1 1 true)])]
  need := [asciiObj, (1082, (.cells 80 74 [(.int .i64 (.ofNat 1)), (.int .i64 (.ofNat 1)), (.int .i64 (.ofNat 2)), (.int .i64 (.ofNat 2)), (.int .i64 (.ofNat 3)), (.int .i64 (.ofNat 1)), (.int .i64 (.ofNat 4)), (.int .i64 (.ofNat 1)), (.int .i64 (.ofNat 5)), (.int .i64 (.ofNat 3)), (.int .i64 (.ofNat 6)), (.int .i64 (.ofNat 1)), (.int .i64 (.ofNat 7)), (.int .i64 (.ofNat 1)), (.int .i64 (.ofNat 8)), (.int .i64 (.ofNat 1)), (.int .i64 (.ofNat 9)), (.int .i64 (.ofNat 1)), (.int .i64 (.ofNat 10)), (.int .i64 (.ofNat 1)), (.int .i64 (.ofNat 11)), (.int .i64 (.ofNat 1)), (.int .i64 (.ofNat 12)), (.int .i64 (.ofNat 1)), (.int .i64 (.ofNat 13)), (.int .i64 (.ofNat 1)), (.int .i64 (.ofNat 14)), (.int .i64 (.ofNat 1)), (.int .i64 (.ofNat 15)), (.int .i64 (.ofNat 12)), (.int .i64 (.ofNat 16)), (.int .i64 (.ofNat 1)), (.int .i64 (.ofNat 17)), (.int .i64 (.ofNat 1)), (.int .i64 (.ofNat 18)), (.int .i64 (.ofNat 1)), (.int .i64 (.ofNat 19)), (.int .i64 (.ofNat 1)), (.int .i64 (.ofNat 20)), (.int .i64 (.ofNat 1)), (.int .i64 (.ofNat 21)), (.int .i64 (.ofNat 1)), (.int .i64 (.ofNat 22)), (.int .i64 (.ofNat 3)), (.int .i64 (.ofNat 23)), (.int .i64 (.ofNat 2)), (.int .i64 (.ofNat 24)), (.int .i64 (.ofNat 2)), (.int .i64 (.ofNat 25)), (.int .i64 (.ofNat 2)), (.int .i64 (.ofNat 26)), (.int .i64 (.ofNat 4)), (.int .i64 (.ofNat 27)), (.int .i64 (.ofNat 1)), (.int .i64 (.ofNat 28)), (.int .i64 (.ofNat 1)), (.int .i64 (.ofNat 29)), (.int .i64 (.ofNat 1)), (.int .i64 (.ofNat 30)), (.int .i64 (.ofNat 3)), (.int .i64 (.ofNat 31)), (.int .i64 (.ofNat 6)), (.int .i64 (.ofNat 32)), (.int .i64 (.ofNat 4)), (.int .i64 (.ofNat 33)), (.int .i64 (.ofNat 1)), (.int .i64 (.ofNat 34)), (.int .i64 (.ofNat 1)), (.int .i64 (.ofNat 35)), (.int .i64 (.ofNat 1)), (.int .i64 (.ofNat 36)), (.int .i64 (.ofNat 1)), (.int .i64 (.ofNat 37)), (.int .i64 (.ofNat 2))] .leaf true false (some 1080))), (1177, (.cells 3 2 [(.int .i64 (.ofNat 0)), (.int .i64 (.ofNat 0))] .leaf true false none)), (1179, (.cells 33 5 [(.int .i64 (.ofNat 2)), (.int .i64 (.ofNat 1)), (.int .i64 (.ofNat 0)), (.sl 1177 0 2 2 true), (.int .i32 (.ofNat 0))] .leaf true false none)), (1181, (.cells 3 1 [(.int .i64 (.ofNat 1))] .leaf true false none)), (1183, (.cells 39 6 [.nils, (.sl 1179 0 1 1 true), (.int .i64 (.ofNat 4)), (.sl 1181 0 1 1 true), .nils, (.int .i32 (.ofNat 0))] .leaf true false none))]
  n0 := 1184
  v := (.tup [(.int .i64 (.ofNat 0)), (.int .i64 (.ofNat 0)), (.int .i64 (.ofNat 0))])
  news := []
  hi := 1468

def entPat2 : Ent where
  k := 229
  args := [(.agg [(.int .i64 (.ofNat 1)), (.sl 1183 0 1 1 true), (.int .i64 (.ofNat 2)), (.int .i64 (.ofNat 1)), (.int .i64 (.ofNat 0)), (.sl 1177 0 2 2 true), (.int .i32 (.ofNat 0)), (.int .i64 (.ofNat 0)), .nils, .nils, (.int .i32 (.ofNat 0)), (.bool false), (.int .i64 (.ofNat 2))])]
  need := [(1177, (.cells 3 2 [(.int .i64 (.ofNat 0)), (.int .i64 (.ofNat 0))] .leaf true false none)), (1179, (.cells 33 5 [(.int .i64 (.ofNat 2)), (.int .i64 (.ofNat 1)), (.int .i64 (.ofNat 0)), (.sl 1177 0 2 2 true), (.int .i32 (.ofNat 0))] .leaf true false none)), (1181, (.cells 3 1 [(.int .i64 (.ofNat 1))] .leaf true false none)), (1183, (.cells 39 6 [.nils, (.sl 1179 0 1 1 true), (.int .i64 (.ofNat 4)), (.sl 1181 0 1 1 true), .nils, (.int .i32 (.ofNat 0))] .leaf true false none))]
  n0 := 1184
  v := (.map 1187)
  news := [(1184, (.cells 212 13 [(.int .i64 (.ofNat 1)), (.sl 1183 0 1 1 true), (.int .i64 (.ofNat 2)), (.int .i64 (.ofNat 1)), (.int .i64 (.ofNat 0)), (.sl 1177 0 2 2 true), (.int .i32 (.ofNat 0)), (.int .i64 (.ofNat 0)), .nils, .nils, (.int .i32 (.ofNat 0)), (.bool false), (.int .i64 (.ofNat 2))] .leaf false false none)), (1185, (.cells 33 5 [(.int .i64 (.ofNat 0)), (.int .i64 (.ofNat 0)), (.int .i64 (.ofNat 0)), .nils, (.int .i32 (.ofNat 0))] (.node (.node (.node .leaf (some (.sl 1177 0 2 2 true)) .leaf) (some (.int .i64 (.ofNat 1))) .leaf) (some (.int .i64 (.ofNat 2))) (.node (.node .leaf (some (.int .i32 (.ofNat 0))) .leaf) (some (.int .i64 (.ofNat 0))) .leaf)) false false none)), (1186, (.cells 366 1 [.nilf] (.node .leaf (some (.fn 343 [] [])) .leaf) false false none)), (1187, (.map [⟨(.int .i64 (.ofNat 1)), (.fn 343 [] []), 0⟩, ⟨(.int .i64 (.ofNat 2)), (.fn 343 [] []), 1⟩, ⟨(.int .i64 (.ofNat 3)), (.fn 348 [] [(.ptr 1190 0), (.ptr 1185 0)]), 2⟩, ⟨(.int .i64 (.ofNat 4)), (.fn 343 [] []), 3⟩, ⟨(.int .i64 (.ofNat 5)), (.fn 343 [] []), 4⟩, ⟨(.int .i64 (.ofNat 6)), (.fn 343 [] []), 5⟩, ⟨(.int .i64 (.ofNat 7)), (.fn 343 [] []), 6⟩, ⟨(.int .i64 (.ofNat 8)), (.fn 343 [] []), 7⟩, ⟨(.int .i64 (.ofNat 9)), (.fn 343 [] []), 8⟩, ⟨(.int .i64 (.ofNat 10)), (.fn 343 [] []), 9⟩, ⟨(.int .i64 (.ofNat 11)), (.fn 343 [] []), 10⟩, ⟨(.int .i64 (.ofNat 12)), (.fn 343 [] []), 11⟩, ⟨(.int .i64 (.ofNat 13)), (.fn 343 [] []), 12⟩, ⟨(.int .i64 (.ofNat 14)), (.fn 343 [] []), 13⟩, ⟨(.int .i64 (.ofNat 15)), (.fn 343 [] []), 14⟩, ⟨(.int .i64 (.ofNat 16)), (.fn 350 [] [(.ptr 1184 0), (.ptr 1185 0), (.ptr 1205 0), (.ptr 1206 0), (.ptr 1204 0), (.ptr 1207 0)]), 15⟩, ⟨(.int .i64 (.ofNat 17)), (.fn 343 [] []), 16⟩, ⟨(.int .i64 (.ofNat 18)), (.fn 343 [] []), 17⟩, ⟨(.int .i64 (.ofNat 19)), (.fn 343 [] []), 18⟩, ⟨(.int .i64 (.ofNat 20)), (.fn 343 [] []), 19⟩, ⟨(.int .i64 (.ofNat 21)), (.fn 343 [] []), 20⟩, ⟨(.int .i64 (.ofNat 22)), (.fn 352 [] [(.ptr 1184 0), (.ptr 1185 0), (.ptr 1186 0)]), 21⟩, ⟨(.int .i64 (.ofNat 23)), (.fn 343 [] []), 22⟩, ⟨(.int .i64 (.ofNat 24)), (.fn 343 [] []), 23⟩, ⟨(.int .i64 (.ofNat 25)), (.fn 343 [] []), 24⟩, ⟨(.int .i64 (.ofNat 26)), (.fn 343 [] []), 25⟩, ⟨(.int .i64 (.ofNat 27)), (.fn 343 [] []), 26⟩, ⟨(.int .i64 (.ofNat 28)), (.fn 343 [] []), 27⟩, ⟨(.int .i64 (.ofNat 29)), (.fn 343 [] []), 28⟩, ⟨(.int .i64 (.ofNat 30)), (.fn 343 [] []), 29⟩, ⟨(.int .i64 (.ofNat 31)), (.fn 343 [] []), 30⟩, ⟨(.int .i64 (.ofNat 32)), (.fn 343 [] []), 31⟩] 32)), (1190, (.cells 3 1 [(.int .i64 (.ofNat 0))] (.node .leaf (some (.int .i64 (.ofNat 2))) .leaf) false false none)), (1204, (.cells 3 1 [(.int .i64 (.ofNat 18))] .leaf false false none)), (1205, (.cells 3 1 [(.int .i64 (.negSucc 127))] .leaf false false none)), (1206, (.cells 3 1 [(.int .i64 (.ofNat 127))] .leaf false false none)), (1207, (.cells 3 1 [(.int .i64 (.ofNat 1))] .leaf false false none))]
  hi := 1243

def entChoose : Ent where
  k := 18
  args := [(.agg [(.int .i64 (.ofNat 1)), (.sl 1183 0 1 1 true)]), (.sl 1082 0 37 37 true)]
  need := [asciiObj, (1082, (.cells 80 74 [(.int .i64 (.ofNat 1)), (.int .i64 (.ofNat 1)), (.int .i64 (.ofNat 2)), (.int .i64 (.ofNat 2)), (.int .i64 (.ofNat 3)), (.int .i64 (.ofNat 1)), (.int .i64 (.ofNat 4)), (.int .i64 (.ofNat 1)), (.int .i64 (.ofNat 5)), (.int .i64 (.ofNat 3)), (.int .i64 (.ofNat 6)), (.int .i64 (.ofNat 1)), (.int .i64 (.ofNat 7)), (.int .i64 (.ofNat 1)), (.int .i64 (.ofNat 8)), (.int .i64 (.ofNat 1)), (.int .i64 (.ofNat 9)), (.int .i64 (.ofNat 1)), (.int .i64 (.ofNat 10)), (.int .i64 (.ofNat 1)), (.int .i64 (.ofNat 11)), (.int .i64 (.ofNat 1)), (.int .i64 (.ofNat 12)), (.int .i64 (.ofNat 1)), (.int .i64 (.ofNat 13)), (.int .i64 (.ofNat 1)), (.int .i64 (.ofNat 14)), (.int .i64 (.ofNat 1)), (.int .i64 (.ofNat 15)), (.int .i64 (.ofNat 12)), (.int .i64 (.ofNat 16)), (.int .i64 (.ofNat 1)), (.int .i64 (.ofNat 17)), (.int .i64 (.ofNat 1)), (.int .i64 (.ofNat 18)), (.int .i64 (.ofNat 1)), (.int .i64 (.ofNat 19)), (.int .i64 (.ofNat 1)), (.int .i64 (.ofNat 20)), (.int .i64 (.ofNat 1)), (.int .i64 (.ofNat 21)), (.int .i64 (.ofNat 1)), (.int .i64 (.ofNat 22)), (.int .i64 (.ofNat 3)), (.int .i64 (.ofNat 23)), (.int .i64 (.ofNat 2)), (.int .i64 (.ofNat 24)), (.int .i64 (.ofNat 2)), (.int .i64 (.ofNat 25)), (.int .i64 (.ofNat 2)), (.int .i64 (.ofNat 26)), (.int .i64 (.ofNat 4)), (.int .i64 (.ofNat 27)), (.int .i64 (.ofNat 1)), (.int .i64 (.ofNat 28)), (.int .i64 (.ofNat 1)), (.int .i64 (.ofNat 29)), (.int .i64 (.ofNat 1)), (.int .i64 (.ofNat 30)), (.int .i64 (.ofNat 3)), (.int .i64 (.ofNat 31)), (.int .i64 (.ofNat 6)), (.int .i64 (.ofNat 32)), (.int .i64 (.ofNat 4)), (.int .i64 (.ofNat 33)), (.int .i64 (.ofNat 1)), (.int .i64 (.ofNat 34)), (.int .i64 (.ofNat 1)), (.int .i64 (.ofNat 35)), (.int .i64 (.ofNat 1)), (.int .i64 (.ofNat 36)), (.int .i64 (.ofNat 1)), (.int .i64 (.ofNat 37)), (.int .i64 (.ofNat 2))] .leaf true false (some 1080))), (1177, (.cells 3 2 [(.int .i64 (.ofNat 0)), (.int .i64 (.ofNat 0))] .leaf true false none)), (1179, (.cells 33 5 [(.int .i64 (.ofNat 2)), (.int .i64 (.ofNat 1)), (.int .i64 (.ofNat 0)), (.sl 1177 0 2 2 true), (.int .i32 (.ofNat 0))] .leaf true false none)), (1181, (.cells 3 1 [(.int .i64 (.ofNat 1))] .leaf true false none)), (1183, (.cells 39 6 [.nils, (.sl 1179 0 1 1 true), (.int .i64 (.ofNat 4)), (.sl 1181 0 1 1 true), .nils, (.int .i32 (.ofNat 0))] .leaf true false none))]
  n0 := 1184
  v := (.tup [(.agg [(.int .i64 (.ofNat 1)), (.sl 6388 0 1 1 true)]), (.int .i64 (.ofNat 1)), (.int .i64 (.ofNat 0))])
  news := [(6317, (.cells 84 8 [(.int .i64 (.ofNat 5)), (.int .i64 (.ofNat 1)), (.int .i64 (.ofNat 0)), (.int .i64 (.ofNat 0)), (.int .i64 (.ofNat 0)), (.int .i64 (.ofNat 0)), (.int .i32 (.ofNat 0)), .nils] .leaf true false none)), (6388, (.cells 117 7 [.nils, (.sl 6317 0 1 1 true), (.int .i64 (.ofNat 7)), (.int .i64 (.ofNat 1)), (.int .i64 (.ofNat 0)), .nils, (.int .i32 (.ofNat 0))] .leaf true false none))]
  hi := 6389

def entLin : Ent where
  k := 25
  args := [(.agg [(.int .i64 (.ofNat 1)), (.sl 6390 0 1 1 true)]), (.int .i64 (.ofNat 4)), (.bool false)]
  need := [(6319, (.cells 84 8 [(.int .i64 (.ofNat 5)), (.int .i64 (.ofNat 1)), (.int .i64 (.ofNat 0)), (.int .i64 (.ofNat 0)), (.int .i64 (.ofNat 0)), (.int .i64 (.ofNat 0)), (.int .i32 (.ofNat 0)), .nils] .leaf true false none)), (6390, (.cells 117 7 [.nils, (.sl 6319 0 1 1 true), (.int .i64 (.ofNat 7)), (.int .i64 (.ofNat 1)), (.int .i64 (.ofNat 0)), .nils, (.int .i32 (.ofNat 0))] .leaf true false none))]
  n0 := 6391
  v := (.tup [(.agg [(.int .i64 (.ofNat 1)), (.int .i64 (.ofNat 4)), (.int .i64 (.ofNat 0)), (.sl 6769 0 1 1 true)]), (.int .i64 (.ofNat 0))])
  news := [(6766, (.cells 225 27 [(.int .i64 (.ofNat 1)), (.int .i64 (.ofNat 2)), (.int .i64 (.ofNat 0)), (.int .i64 (.ofNat 0)), (.int .i64 (.ofNat 0)), (.int .i64 (.ofNat 0)), (.int .i32 (.ofNat 0)), .nils, (.int .i64 (.negSucc 0)), (.int .i64 (.ofNat 5)), (.int .i64 (.ofNat 2)), (.int .i64 (.ofNat 0)), (.int .i64 (.ofNat 2)), (.int .i64 (.ofNat 2)), (.int .i64 (.ofNat 0)), (.int .i32 (.ofNat 0)), .nils, (.int .i64 (.ofNat 0)), (.int .i64 (.ofNat 1)), (.int .i64 (.ofNat 0)), (.int .i64 (.ofNat 0)), (.int .i64 (.ofNat 2)), (.int .i64 (.ofNat 0)), (.int .i64 (.ofNat 0)), (.int .i32 (.ofNat 0)), .nils, (.int .i64 (.negSucc 0))] .leaf true false (some 6755))), (6769, (.cells 94 6 [(.sl 6766 0 3 3 true), (.int .i64 (.ofNat 7)), (.int .i64 (.ofNat 0)), (.int .i64 (.ofNat 0)), .nils, (.int .i32 (.ofNat 0))] .leaf true false none))]
  hi := 6838

def entOps : Ent where
  k := 123
  args := []
  need := [asciiObj]
  n0 := 1000
  v := (.map 1000)
  news := [(1000, (.map [⟨(.int .i64 (.ofNat 1)), (.agg [(.str [109, 111, 118]), (.str [68, 65])]), 0⟩, ⟨(.int .i64 (.ofNat 2)), (.agg [(.str [115, 119, 97, 112]), (.str [65, 66])]), 1⟩, ⟨(.int .i64 (.ofNat 3)), (.agg [(.str [108, 105]), (.str [68, 104])]), 2⟩, ⟨(.int .i64 (.ofNat 4)), (.agg [(.str [108, 105, 119]), (.str [68, 119])]), 3⟩, ⟨(.int .i64 (.ofNat 5)), (.agg [(.str [97, 100, 100]), (.str [68, 65, 66])]), 4⟩, ⟨(.int .i64 (.ofNat 6)), (.agg [(.str [115, 117, 98]), (.str [68, 65, 66])]), 5⟩, ⟨(.int .i64 (.ofNat 7)), (.agg [(.str [109, 117, 108]), (.str [68, 65, 66])]), 6⟩, ⟨(.int .i64 (.ofNat 8)), (.agg [(.str [97, 110, 100]), (.str [68, 65, 66])]), 7⟩, ⟨(.int .i64 (.ofNat 9)), (.agg [(.str [111, 114]), (.str [68, 65, 66])]), 8⟩, ⟨(.int .i64 (.ofNat 10)), (.agg [(.str [120, 111, 114]), (.str [68, 65, 66])]), 9⟩, ⟨(.int .i64 (.ofNat 11)), (.agg [(.str [115, 104, 108]), (.str [68, 65, 66])]), 10⟩, ⟨(.int .i64 (.ofNat 12)), (.agg [(.str [115, 104, 114]), (.str [68, 65, 66])]), 11⟩, ⟨(.int .i64 (.ofNat 13)), (.agg [(.str [115, 97, 114]), (.str [68, 65, 66])]), 12⟩, ⟨(.int .i64 (.ofNat 14)), (.agg [(.str [101, 113]), (.str [68, 65, 66])]), 13⟩, ⟨(.int .i64 (.ofNat 15)), (.agg [(.str [108, 116]), (.str [68, 65, 66])]), 14⟩, ⟨(.int .i64 (.ofNat 16)), (.agg [(.str [108, 116, 117]), (.str [68, 65, 66])]), 15⟩, ⟨(.int .i64 (.ofNat 17)), (.agg [(.str [100, 105, 118]), (.str [68, 65, 66])]), 16⟩, ⟨(.int .i64 (.ofNat 18)), (.agg [(.str [97, 100, 100, 105]), (.str [68, 65, 105])]), 17⟩, ⟨(.int .i64 (.ofNat 19)), (.agg [(.str [97, 110, 100, 105]), (.str [68, 65, 105])]), 18⟩, ⟨(.int .i64 (.ofNat 20)), (.agg [(.str [115, 104, 108, 105]), (.str [68, 65, 115])]), 19⟩, ⟨(.int .i64 (.ofNat 21)), (.agg [(.str [115, 104, 114, 105]), (.str [68, 65, 115])]), 20⟩, ⟨(.int .i64 (.ofNat 22)), (.agg [(.str [115, 97, 114, 105]), (.str [68, 65, 115])]), 21⟩, ⟨(.int .i64 (.ofNat 23)), (.agg [(.str [109, 97, 100, 100]), (.str [68, 65, 66, 67])]), 22⟩, ⟨(.int .i64 (.ofNat 24)), (.agg [(.str [108, 100]), (.str [68, 65, 117])]), 23⟩, ⟨(.int .i64 (.ofNat 25)), (.agg [(.str [108, 100, 120]), (.str [68, 65, 66])]), 24⟩, ⟨(.int .i64 (.ofNat 26)), (.agg [(.str [115, 116]), (.str [65, 66, 117])]), 25⟩, ⟨(.int .i64 (.ofNat 27)), (.agg [(.str [115, 116, 120]), (.str [65, 66, 67])]), 26⟩, ⟨(.int .i64 (.ofNat 28)), (.agg [(.str [99, 97, 108, 108]), (.str [110, 119])]), 27⟩, ⟨(.int .i64 (.ofNat 29)), (.agg [(.str [109, 117, 108, 119]), (.str [65, 66])]), 28⟩, ⟨(.int .i64 (.ofNat 30)), (.agg [(.str [115, 108, 100]), (.str [68, 112])]), 29⟩, ⟨(.int .i64 (.ofNat 31)), (.agg [(.str [115, 115, 116]), (.str [65, 112])]), 30⟩, ⟨(.int .i64 (.ofNat 40)), (.agg [(.str [106]), (.str [98])]), 31⟩, ⟨(.int .i64 (.ofNat 41)), (.agg [(.str [98, 110, 122]), (.str [65, 98])]), 32⟩, ⟨(.int .i64 (.ofNat 42)), (.agg [(.str [98, 122]), (.str [65, 98])]), 33⟩, ⟨(.int .i64 (.ofNat 43)), (.agg [(.str [98, 101, 113]), (.str [65, 66, 98])]), 34⟩, ⟨(.int .i64 (.ofNat 44)), (.agg [(.str [98, 110, 101]), (.str [65, 66, 98])]), 35⟩, ⟨(.int .i64 (.ofNat 45)), (.agg [(.str [98, 108, 116]), (.str [65, 66, 98])]), 36⟩, ⟨(.int .i64 (.ofNat 46)), (.agg [(.str [98, 103, 101]), (.str [65, 66, 98])]), 37⟩, ⟨(.int .i64 (.ofNat 47)), (.agg [(.str [98, 108, 116, 117]), (.str [65, 66, 98])]), 38⟩, ⟨(.int .i64 (.ofNat 48)), (.agg [(.str [98, 103, 101, 117]), (.str [65, 66, 98])]), 39⟩, ⟨(.int .i64 (.ofNat 49)), (.agg [(.str [106, 116]), (.str [65, 116])]), 40⟩, ⟨(.int .i64 (.ofNat 50)), (.agg [(.str [114, 101, 116]), (.str [101])]), 41⟩, ⟨(.int .i64 (.ofNat 51)), (.agg [(.str [116, 114, 97, 112]), (.str [119])]), 42⟩] 43))]
  hi := 1046

def entSh0 : Ent where
  k := 112
  args := [(.agg [(.int .i64 (.ofNat 1)), (.int .i64 (.ofNat 2)), (.int .i64 (.ofNat 0)), (.int .i64 (.ofNat 0)), (.int .i64 (.ofNat 0)), (.int .i64 (.ofNat 0)), (.int .i32 (.ofNat 0)), .nils])]
  need := [asciiObj]
  n0 := 1000
  v := (.tup [(.agg [(.str [109, 111, 118]), (.str [68, 65])]), (.bool true)])
  news := []
  hi := 1049

def entSh1 : Ent where
  k := 112
  args := [(.agg [(.int .i64 (.ofNat 5)), (.int .i64 (.ofNat 2)), (.int .i64 (.ofNat 0)), (.int .i64 (.ofNat 2)), (.int .i64 (.ofNat 2)), (.int .i64 (.ofNat 0)), (.int .i32 (.ofNat 0)), .nils])]
  need := [asciiObj]
  n0 := 1000
  v := (.tup [(.agg [(.str [97, 100, 100]), (.str [68, 65, 66])]), (.bool true)])
  news := []
  hi := 1049

def entSh2 : Ent where
  k := 112
  args := [(.agg [(.int .i64 (.ofNat 1)), (.int .i64 (.ofNat 0)), (.int .i64 (.ofNat 0)), (.int .i64 (.ofNat 2)), (.int .i64 (.ofNat 0)), (.int .i64 (.ofNat 0)), (.int .i32 (.ofNat 0)), .nils])]
  need := [asciiObj]
  n0 := 1000
  v := (.tup [(.agg [(.str [109, 111, 118]), (.str [68, 65])]), (.bool true)])
  news := []
  hi := 1049

def entSh3 : Ent where
  k := 112
  args := [(.agg [(.int .i64 (.ofNat 50)), (.int .i64 (.ofNat 0)), (.int .i64 (.ofNat 1)), (.int .i64 (.ofNat 0)), (.int .i64 (.ofNat 0)), (.int .i64 (.ofNat 0)), (.int .i32 (.ofNat 0)), .nils])]
  need := [asciiObj]
  n0 := 1000
  v := (.tup [(.agg [(.str [114, 101, 116]), (.str [101])]), (.bool true)])
  news := []
  hi := 1049

def entAsm : Ent where
  k := 22
  args := [(.agg [(.int .i64 (.ofNat 1)), (.int .i64 (.ofNat 4)), (.int .i64 (.ofNat 0)), (.sl 6769 0 1 1 true)])]
  need := [asciiObj, (6766, (.cells 225 27 [(.int .i64 (.ofNat 1)), (.int .i64 (.ofNat 2)), (.int .i64 (.ofNat 0)), (.int .i64 (.ofNat 0)), (.int .i64 (.ofNat 0)), (.int .i64 (.ofNat 0)), (.int .i32 (.ofNat 0)), .nils, (.int .i64 (.negSucc 0)), (.int .i64 (.ofNat 5)), (.int .i64 (.ofNat 2)), (.int .i64 (.ofNat 0)), (.int .i64 (.ofNat 2)), (.int .i64 (.ofNat 2)), (.int .i64 (.ofNat 0)), (.int .i32 (.ofNat 0)), .nils, (.int .i64 (.ofNat 0)), (.int .i64 (.ofNat 1)), (.int .i64 (.ofNat 0)), (.int .i64 (.ofNat 0)), (.int .i64 (.ofNat 2)), (.int .i64 (.ofNat 0)), (.int .i64 (.ofNat 0)), (.int .i32 (.ofNat 0)), .nils, (.int .i64 (.negSucc 0))] .leaf true false (some 6755))), (6769, (.cells 94 6 [(.sl 6766 0 3 3 true), (.int .i64 (.ofNat 7)), (.int .i64 (.ofNat 0)), (.int .i64 (.ofNat 0)), .nils, (.int .i32 (.ofNat 0))] .leaf true false none))]
  n0 := 6770
  v := (.tup [(.str [1, 32, 5, 34, 32, 1, 2, 50, 1]), (.sl 6856 0 1 1 true), (.int .i64 (.ofNat 0))])
  news := [(6856, (.cells 3 1 [(.int .i64 (.ofNat 0))] .leaf true false none))]
  hi := 7508

def entSim : Ent where
  k := 10
  args := [(.str [1, 32, 5, 34, 32, 1, 2, 50, 1]), (.agg [(.sl 7581 0 1 1 false), .nils, .nils, (.int .i64 (.ofNat 57))])]
  need := [asciiObj, (7581, (.cells 21 1 [(.int .i32 (.ofNat 21))] .leaf false false none))]
  n0 := 7582
  v := (.agg [(.int .i64 (.ofNat 1)), (.int .i32 (.ofNat 42)), .nils, .nils, (.int .i64 (.ofNat 4))])
  news := []
  hi := 8064

def dq (k : Nat) : Bool := match Nat.beq k 78 with | true => true | false => Nat.beq k 239
def ents1 : List Ent := [entNames, entOps, entPat0, entPat2, entRight, entAll]
def ents2 : List Ent := [entNames, entOps, entPat0, entPat2, entRight, entAll, entCov, entSh0, entSh1, entSh2, entSh3]
def ents3 : List Ent := [entNames, entOps, entPat0, entPat2, entRight, entAll, entCov, entSh0, entSh1, entSh2, entSh3, entSplit, entChoose, entLin, entAsm, entSim]
def O0 : Orc := ⟨dq, caL []⟩
def O1 : Orc := ⟨dq, caL ents1⟩
def O2 : Orc := ⟨dq, caL ents2⟩
def O3 : Orc := ⟨dq, caL ents3⟩
def H0 : H := ⟨putObjs [asciiObj] .leaf, 1000, 1000, 1000⟩
def isTrue (l : List Out) : Bool := match l with
  | [.val (.bool true) _] => true
  | _ => false
end Go.Proofs.YthghnnhpimgbmaaGreatDoor

/- Several texts of mine, one behind the other. Conditions: as each says. -/
import Derived.Test.YthikfaephakahaaGreatDoorZM4
import Derived.Test.YthikfaephakahaaGreatDoorZM5
set_option linter.unusedVariables false
set_option linter.unusedSimpArgs false
section
namespace Go.Proofs.YthikfaephakahaaGreatDoor
open Go Go.Eng
def glob_nameplan_record_rules:DV := .agg [.int .i64 0,.int .i64 0,.int .i64 0,.int .i64 0,.int .i64 0,.bool false,.bool false,.bool false,.int .i64 0,.int .i64 1,.int .i64 1000000,.int .i64 0,.int .i64 0,.bool false,.bool false,.bool true,.int .i64 1,.int .i64 0,.int .i64 0,.int .i64 0,.int .i64 0,.bool false,.bool false,.bool false,.int .i64 1,.int .i64 0,.int .i64 0,.int .i64 0,.int .i64 0,.bool false,.bool true,.bool false,.int .i64 0,.int .i64 0,.int .i64 65535,.int .i64 0,.int .i64 100000,.bool false,.bool true,.bool false,.int .i64 3,.int .i64 0,.int .i64 0,.int .i64 0,.int .i64 0,.bool false,.bool false,.bool true,.int .i64 0,.int .i64 1,.int .i64 1000000,.int .i64 1,.int .i64 3,.bool false,.bool false,.bool false,.int .i64 0,.int .i64 1,.int .i64 1000000,.int .i64 1,.int .i64 3,.bool false,.bool false,.bool false,.int .i64 2,.int .i64 2,.int .i64 510,.int .i64 0,.int .i64 0,.bool true,.bool false,.bool true]
def types:List TInfo:=[
 ⟨.other,1,0,[]⟩,
 ⟨.func,1,8,[.nilfn]⟩,
 ⟨.int .i64,1,8,[.int .i64 0]⟩,
 ⟨.int .i64,1,8,[.int .i64 0]⟩,
 ⟨.bool,1,1,[.bool false]⟩,
 ⟨.int .u8,1,1,[.int .u8 0]⟩,
 ⟨.int .u8,1,1,[.int .u8 0]⟩,
 ⟨.struct [(0,2),(1,3),(2,4),(3,6)],4,24,[.int .i64 0,.int .i64 0,.bool false,.int .u8 0]⟩,
 ⟨.struct [(0,2),(1,3),(2,4),(3,6)],4,24,[.int .i64 0,.int .i64 0,.bool false,.int .u8 0]⟩,
 ⟨.string,1,16,[.str []]⟩,
 ⟨.string,1,16,[.str []]⟩,
 ⟨.string,1,16,[.str []]⟩,
 ⟨.int .u64,1,8,[.int .u64 0]⟩,
 ⟨.struct [(0,9),(1,12)],2,24,[.str [],.int .u64 0]⟩,
 ⟨.struct [(0,9),(1,12)],2,24,[.str [],.int .u64 0]⟩,
 ⟨.pointer 353,1,8,[.nilptr]⟩,
 ⟨.pointer 356,1,8,[.nilptr]⟩,
 ⟨.pointer 363,1,8,[.nilptr]⟩,
 ⟨.struct [(0,17)],1,8,[.nilptr]⟩,
 ⟨.struct [(0,17)],1,8,[.nilptr]⟩,
 ⟨.iface,1,16,[.nilif]⟩,
 ⟨.int .i32,1,4,[.int .i32 0]⟩,
 ⟨.slice 49,1,24,[.nilsl]⟩,
 ⟨.slice 37,1,24,[.nilsl]⟩,
 ⟨.slice 45,1,24,[.nilsl]⟩,
 ⟨.func,1,8,[.nilfn]⟩,
 ⟨.func,1,8,[.nilfn]⟩,
 ⟨.int .i64,1,8,[.int .i64 0]⟩,
 ⟨.other,1,0,[]⟩,
 ⟨.func,1,8,[.nilfn]⟩,
 ⟨.other,1,0,[]⟩,
 ⟨.func,1,8,[.nilfn]⟩,
 ⟨.func,1,8,[.nilfn]⟩,
 ⟨.func,1,8,[.nilfn]⟩,
 ⟨.func,1,8,[.nilfn]⟩,
 ⟨.func,1,8,[.nilfn]⟩,
 ⟨.struct [(0,3),(1,3),(2,4)],3,24,[.int .i64 0,.int .i64 0,.bool false]⟩,
 ⟨.struct [(0,3),(1,3),(2,4)],3,24,[.int .i64 0,.int .i64 0,.bool false]⟩,
 ⟨.func,1,8,[.nilfn]⟩,
 ⟨.func,1,8,[.nilfn]⟩,
 ⟨.func,1,8,[.nilfn]⟩,
 ⟨.slice 81,1,24,[.nilsl]⟩,
 ⟨.struct [(0,9),(1,41)],2,40,[.str [],.nilsl]⟩,
 ⟨.struct [(0,9),(1,41)],2,40,[.str [],.nilsl]⟩,
 ⟨.struct [(0,3),(1,3),(2,3),(3,43)],5,64,[.int .i64 0,.int .i64 0,.int .i64 0,.str [],.nilsl]⟩,
 ⟨.struct [(0,3),(1,3),(2,3),(3,43)],5,64,[.int .i64 0,.int .i64 0,.int .i64 0,.str [],.nilsl]⟩,
 ⟨.func,1,8,[.nilfn]⟩,
 ⟨.func,1,8,[.nilfn]⟩,
 ⟨.struct [(0,3),(1,43)],3,48,[.int .i64 0,.str [],.nilsl]⟩,
 ⟨.struct [(0,3),(1,43)],3,48,[.int .i64 0,.str [],.nilsl]⟩,
 ⟨.func,1,8,[.nilfn]⟩,
 ⟨.slice 93,1,24,[.nilsl]⟩,
 ⟨.slice 76,1,24,[.nilsl]⟩,
 ⟨.slice 83,1,24,[.nilsl]⟩,
 ⟨.struct [(0,9),(1,3),(2,3),(3,53)],4,56,[.str [],.int .i64 0,.int .i64 0,.nilsl]⟩,
 ⟨.struct [(0,9),(1,3),(2,3),(3,53)],4,56,[.str [],.int .i64 0,.int .i64 0,.nilsl]⟩,
 ⟨.slice 3,1,24,[.nilsl]⟩,
 ⟨.struct [(0,51),(1,52),(2,55),(6,56)],7,128,[.nilsl,.nilsl,.str [],.int .i64 0,.int .i64 0,.nilsl,.nilsl]⟩,
 ⟨.struct [(0,51),(1,52),(2,55),(6,56)],7,128,[.nilsl,.nilsl,.str [],.int .i64 0,.int .i64 0,.nilsl,.nilsl]⟩,
 ⟨.func,1,8,[.nilfn]⟩,
 ⟨.slice 9,1,24,[.nilsl]⟩,
 ⟨.other,1,0,[]⟩,
 ⟨.func,1,8,[.nilfn]⟩,
 ⟨.other,1,0,[]⟩,
 ⟨.func,1,8,[.nilfn]⟩,
 ⟨.slice 78,1,24,[.nilsl]⟩,
 ⟨.other,1,0,[]⟩,
 ⟨.func,1,8,[.nilfn]⟩,
 ⟨.func,1,8,[.nilfn]⟩,
 ⟨.func,1,8,[.nilfn]⟩,
 ⟨.func,1,8,[.nilfn]⟩,
 ⟨.func,1,8,[.nilfn]⟩,
 ⟨.func,1,8,[.nilfn]⟩,
 ⟨.func,1,8,[.nilfn]⟩,
 ⟨.func,1,8,[.nilfn]⟩,
 ⟨.struct [(0,3),(1,43)],3,48,[.int .i64 0,.str [],.nilsl]⟩,
 ⟨.struct [(0,3),(1,43)],3,48,[.int .i64 0,.str [],.nilsl]⟩,
 ⟨.struct [(0,9),(1,3)],2,24,[.str [],.int .i64 0]⟩,
 ⟨.struct [(0,9),(1,3)],2,24,[.str [],.int .i64 0]⟩,
 ⟨.slice 181,1,24,[.nilsl]⟩,
 ⟨.struct [(0,55),(4,79)],5,80,[.str [],.int .i64 0,.int .i64 0,.nilsl,.nilsl]⟩,
 ⟨.struct [(0,55),(4,79)],5,80,[.str [],.int .i64 0,.int .i64 0,.nilsl,.nilsl]⟩,
 ⟨.struct [(0,9),(1,3),(2,3)],3,32,[.str [],.int .i64 0,.int .i64 0]⟩,
 ⟨.struct [(0,9),(1,3),(2,3)],3,32,[.str [],.int .i64 0,.int .i64 0]⟩,
 ⟨.func,1,8,[.nilfn]⟩,
 ⟨.func,1,8,[.nilfn]⟩,
 ⟨.func,1,8,[.nilfn]⟩,
 ⟨.struct [(0,3),(1,41),(2,9)],3,48,[.int .i64 0,.nilsl,.str []]⟩,
 ⟨.struct [(0,3),(1,41),(2,9)],3,48,[.int .i64 0,.nilsl,.str []]⟩,
 ⟨.other,1,0,[]⟩,
 ⟨.func,1,8,[.nilfn]⟩,
 ⟨.map 3 4,1,8,[.nilmap]⟩,
 ⟨.struct [(0,9),(1,3),(2,3)],3,32,[.str [],.int .i64 0,.int .i64 0]⟩,
 ⟨.struct [(0,9),(1,3),(2,3)],3,32,[.str [],.int .i64 0,.int .i64 0]⟩,
 ⟨.func,1,8,[.nilfn]⟩,
 ⟨.func,1,8,[.nilfn]⟩,
 ⟨.slice 99,1,24,[.nilsl]⟩,
 ⟨.func,1,8,[.nilfn]⟩,
 ⟨.struct [(0,9),(1,65),(2,60)],3,64,[.str [],.nilsl,.nilsl]⟩,
 ⟨.struct [(0,9),(1,65),(2,60)],3,64,[.str [],.nilsl,.nilsl]⟩,
 ⟨.func,1,8,[.nilfn]⟩,
 ⟨.func,1,8,[.nilfn]⟩,
 ⟨.func,1,8,[.nilfn]⟩,
 ⟨.func,1,8,[.nilfn]⟩,
 ⟨.map 3 56,1,8,[.nilmap]⟩,
 ⟨.slice 106,1,24,[.nilsl]⟩,
 ⟨.slice 109,1,24,[.nilsl]⟩,
 ⟨.func,1,8,[.nilfn]⟩,
 ⟨.struct [(0,3),(1,3),(2,3)],3,24,[.int .i64 0,.int .i64 0,.int .i64 0]⟩,
 ⟨.struct [(0,3),(1,3),(2,3)],3,24,[.int .i64 0,.int .i64 0,.int .i64 0]⟩,
 ⟨.func,1,8,[.nilfn]⟩,
 ⟨.func,1,8,[.nilfn]⟩,
 ⟨.func,1,8,[.nilfn]⟩,
 ⟨.func,1,8,[.nilfn]⟩,
 ⟨.func,1,8,[.nilfn]⟩,
 ⟨.func,1,8,[.nilfn]⟩,
 ⟨.func,1,8,[.nilfn]⟩,
 ⟨.func,1,8,[.nilfn]⟩,
 ⟨.func,1,8,[.nilfn]⟩,
 ⟨.func,1,8,[.nilfn]⟩,
 ⟨.func,1,8,[.nilfn]⟩,
 ⟨.map 9 4,1,8,[.nilmap]⟩,
 ⟨.func,1,8,[.nilfn]⟩,
 ⟨.func,1,8,[.nilfn]⟩,
 ⟨.func,1,8,[.nilfn]⟩,
 ⟨.func,1,8,[.nilfn]⟩,
 ⟨.func,1,8,[.nilfn]⟩,
 ⟨.func,1,8,[.nilfn]⟩,
 ⟨.func,1,8,[.nilfn]⟩,
 ⟨.func,1,8,[.nilfn]⟩,
 ⟨.func,1,8,[.nilfn]⟩,
 ⟨.func,1,8,[.nilfn]⟩,
 ⟨.slice 139,1,24,[.nilsl]⟩,
 ⟨.func,1,8,[.nilfn]⟩,
 ⟨.map 9 43,1,8,[.nilmap]⟩,
 ⟨.map 9 43,1,8,[.nilmap]⟩,
 ⟨.func,1,8,[.nilfn]⟩,
 ⟨.func,1,8,[.nilfn]⟩,
 ⟨.struct [(0,9),(1,60),(2,3),(3,78)],5,72,[.str [],.nilsl,.int .i64 0,.str [],.int .i64 0]⟩,
 ⟨.struct [(0,9),(1,60),(2,3),(3,78)],5,72,[.str [],.nilsl,.int .i64 0,.str [],.int .i64 0]⟩,
 ⟨.func,1,8,[.nilfn]⟩,
 ⟨.func,1,8,[.nilfn]⟩,
 ⟨.func,1,8,[.nilfn]⟩,
 ⟨.func,1,8,[.nilfn]⟩,
 ⟨.other,1,0,[]⟩,
 ⟨.func,1,8,[.nilfn]⟩,
 ⟨.pointer 150,1,8,[.nilptr]⟩,
 ⟨.func,1,8,[.nilfn]⟩,
 ⟨.map 78 3,1,8,[.nilmap]⟩,
 ⟨.struct [(0,9),(1,41),(2,148),(3,78),(5,9),(6,4),(7,9)],8,112,[.str [],.nilsl,.nilmap,.str [],.int .i64 0,.str [],.bool false,.str []]⟩,
 ⟨.struct [(0,9),(1,41),(2,148),(3,78),(5,9),(6,4),(7,9)],8,112,[.str [],.nilsl,.nilmap,.str [],.int .i64 0,.str [],.bool false,.str []]⟩,
 ⟨.func,1,8,[.nilfn]⟩,
 ⟨.slice 151,1,24,[.nilsl]⟩,
 ⟨.other,1,0,[]⟩,
 ⟨.func,1,8,[.nilfn]⟩,
 ⟨.func,1,8,[.nilfn]⟩,
 ⟨.map 9 3,1,8,[.nilmap]⟩,
 ⟨.struct [(0,58),(7,156)],8,136,[.nilsl,.nilsl,.str [],.int .i64 0,.int .i64 0,.nilsl,.nilsl,.nilmap]⟩,
 ⟨.struct [(0,58),(7,156)],8,136,[.nilsl,.nilsl,.str [],.int .i64 0,.int .i64 0,.nilsl,.nilsl,.nilmap]⟩,
 ⟨.func,1,8,[.nilfn]⟩,
 ⟨.func,1,8,[.nilfn]⟩,
 ⟨.func,1,8,[.nilfn]⟩,
 ⟨.slice 166,1,24,[.nilsl]⟩,
 ⟨.other,1,0,[]⟩,
 ⟨.func,1,8,[.nilfn]⟩,
 ⟨.struct [(0,78),(2,9)],3,40,[.str [],.int .i64 0,.str []]⟩,
 ⟨.struct [(0,78),(2,9)],3,40,[.str [],.int .i64 0,.str []]⟩,
 ⟨.func,1,8,[.nilfn]⟩,
 ⟨.func,1,8,[.nilfn]⟩,
 ⟨.other,1,0,[]⟩,
 ⟨.func,1,8,[.nilfn]⟩,
 ⟨.func,1,8,[.nilfn]⟩,
 ⟨.func,1,8,[.nilfn]⟩,
 ⟨.func,1,8,[.nilfn]⟩,
 ⟨.func,1,8,[.nilfn]⟩,
 ⟨.func,1,8,[.nilfn]⟩,
 ⟨.func,1,8,[.nilfn]⟩,
 ⟨.func,1,8,[.nilfn]⟩,
 ⟨.func,1,8,[.nilfn]⟩,
 ⟨.int .u64,1,8,[.int .u64 0]⟩,
 ⟨.struct [(0,9),(1,3),(2,3),(3,3),(4,3),(5,179)],6,56,[.str [],.int .i64 0,.int .i64 0,.int .i64 0,.int .i64 0,.int .u64 0]⟩,
 ⟨.struct [(0,9),(1,3),(2,3),(3,3),(4,3),(5,179)],6,56,[.str [],.int .i64 0,.int .i64 0,.int .i64 0,.int .i64 0,.int .u64 0]⟩,
 ⟨.func,1,8,[.nilfn]⟩,
 ⟨.func,1,8,[.nilfn]⟩,
 ⟨.int .u64,1,8,[.int .u64 0]⟩,
 ⟨.func,1,8,[.nilfn]⟩,
 ⟨.func,1,8,[.nilfn]⟩,
 ⟨.func,1,8,[.nilfn]⟩,
 ⟨.func,1,8,[.nilfn]⟩,
 ⟨.func,1,8,[.nilfn]⟩,
 ⟨.func,1,8,[.nilfn]⟩,
 ⟨.func,1,8,[.nilfn]⟩,
 ⟨.func,1,8,[.nilfn]⟩,
 ⟨.func,1,8,[.nilfn]⟩,
 ⟨.string,1,16,[.str []]⟩,
 ⟨.func,1,8,[.nilfn]⟩,
 ⟨.func,1,8,[.nilfn]⟩,
 ⟨.func,1,8,[.nilfn]⟩,
 ⟨.func,1,8,[.nilfn]⟩,
 ⟨.struct [(0,132)],1,24,[.nilsl]⟩,
 ⟨.struct [(0,132)],1,24,[.nilsl]⟩,
 ⟨.func,1,8,[.nilfn]⟩,
 ⟨.other,1,0,[]⟩,
 ⟨.func,1,8,[.nilfn]⟩,
 ⟨.slice 262,1,24,[.nilsl]⟩,
 ⟨.struct [(0,60),(1,204)],2,48,[.nilsl,.nilsl]⟩,
 ⟨.struct [(0,60),(1,204)],2,48,[.nilsl,.nilsl]⟩,
 ⟨.func,1,8,[.nilfn]⟩,
 ⟨.func,1,8,[.nilfn]⟩,
 ⟨.func,1,8,[.nilfn]⟩,
 ⟨.func,1,8,[.nilfn]⟩,
 ⟨.map 9 213,1,8,[.nilmap]⟩,
 ⟨.struct [(0,3),(1,3)],2,16,[.int .i64 0,.int .i64 0]⟩,
 ⟨.struct [(0,3),(1,3)],2,16,[.int .i64 0,.int .i64 0]⟩,
 ⟨.other,1,0,[]⟩,
 ⟨.func,1,8,[.nilfn]⟩,
 ⟨.func,1,8,[.nilfn]⟩,
 ⟨.struct [(0,43)],2,40,[.str [],.nilsl]⟩,
 ⟨.struct [(0,43)],2,40,[.str [],.nilsl]⟩,
 ⟨.other,1,0,[]⟩,
 ⟨.func,1,8,[.nilfn]⟩,
 ⟨.other,1,0,[]⟩,
 ⟨.func,1,8,[.nilfn]⟩,
 ⟨.func,1,8,[.nilfn]⟩,
 ⟨.func,1,8,[.nilfn]⟩,
 ⟨.func,1,8,[.nilfn]⟩,
 ⟨.func,1,8,[.nilfn]⟩,
 ⟨.func,1,8,[.nilfn]⟩,
 ⟨.func,1,8,[.nilfn]⟩,
 ⟨.func,1,8,[.nilfn]⟩,
 ⟨.func,1,8,[.nilfn]⟩,
 ⟨.func,1,8,[.nilfn]⟩,
 ⟨.struct [(0,218),(2,60)],3,64,[.str [],.nilsl,.nilsl]⟩,
 ⟨.struct [(0,218),(2,60)],3,64,[.str [],.nilsl,.nilsl]⟩,
 ⟨.func,1,8,[.nilfn]⟩,
 ⟨.func,1,8,[.nilfn]⟩,
 ⟨.func,1,8,[.nilfn]⟩,
 ⟨.func,1,8,[.nilfn]⟩,
 ⟨.func,1,8,[.nilfn]⟩,
 ⟨.func,1,8,[.nilfn]⟩,
 ⟨.int .i64,1,8,[.int .i64 0]⟩,
 ⟨.other,1,0,[]⟩,
 ⟨.func,1,8,[.nilfn]⟩,
 ⟨.func,1,8,[.nilfn]⟩,
 ⟨.func,1,8,[.nilfn]⟩,
 ⟨.func,1,8,[.nilfn]⟩,
 ⟨.func,1,8,[.nilfn]⟩,
 ⟨.int .u32,1,4,[.int .u32 0]⟩,
 ⟨.func,1,8,[.nilfn]⟩,
 ⟨.map 251 4,1,8,[.nilmap]⟩,
 ⟨.struct [(0,3),(1,9)],2,24,[.int .i64 0,.str []]⟩,
 ⟨.struct [(0,3),(1,9)],2,24,[.int .i64 0,.str []]⟩,
 ⟨.func,1,8,[.nilfn]⟩,
 ⟨.func,1,8,[.nilfn]⟩,
 ⟨.func,1,8,[.nilfn]⟩,
 ⟨.func,1,8,[.nilfn]⟩,
 ⟨.func,1,8,[.nilfn]⟩,
 ⟨.func,1,8,[.nilfn]⟩,
 ⟨.other,1,0,[]⟩,
 ⟨.func,1,8,[.nilfn]⟩,
 ⟨.pointer 200,1,8,[.nilptr]⟩,
 ⟨.struct [(0,78),(2,9)],3,40,[.str [],.int .i64 0,.str []]⟩,
 ⟨.struct [(0,78),(2,9)],3,40,[.str [],.int .i64 0,.str []]⟩,
 ⟨.func,1,8,[.nilfn]⟩,
 ⟨.other,1,0,[]⟩,
 ⟨.func,1,8,[.nilfn]⟩,
 ⟨.func,1,8,[.nilfn]⟩,
 ⟨.func,1,8,[.nilfn]⟩,
 ⟨.func,1,8,[.nilfn]⟩,
 ⟨.func,1,8,[.nilfn]⟩,
 ⟨.func,1,8,[.nilfn]⟩,
 ⟨.func,1,8,[.nilfn]⟩,
 ⟨.func,1,8,[.nilfn]⟩,
 ⟨.func,1,8,[.nilfn]⟩,
 ⟨.func,1,8,[.nilfn]⟩,
 ⟨.func,1,8,[.nilfn]⟩,
 ⟨.func,1,8,[.nilfn]⟩,
 ⟨.func,1,8,[.nilfn]⟩,
 ⟨.func,1,8,[.nilfn]⟩,
 ⟨.func,1,8,[.nilfn]⟩,
 ⟨.func,1,8,[.nilfn]⟩,
 ⟨.func,1,8,[.nilfn]⟩,
 ⟨.func,1,8,[.nilfn]⟩,
 ⟨.func,1,8,[.nilfn]⟩,
 ⟨.func,1,8,[.nilfn]⟩,
 ⟨.func,1,8,[.nilfn]⟩,
 ⟨.func,1,8,[.nilfn]⟩,
 ⟨.func,1,8,[.nilfn]⟩,
 ⟨.func,1,8,[.nilfn]⟩,
 ⟨.func,1,8,[.nilfn]⟩,
 ⟨.func,1,8,[.nilfn]⟩,
 ⟨.func,1,8,[.nilfn]⟩,
 ⟨.func,1,8,[.nilfn]⟩,
 ⟨.func,1,8,[.nilfn]⟩,
 ⟨.func,1,8,[.nilfn]⟩,
 ⟨.slice 4,1,24,[.nilsl]⟩,
 ⟨.func,1,8,[.nilfn]⟩,
 ⟨.int .u64,1,8,[.int .u64 0]⟩,
 ⟨.func,1,8,[.nilfn]⟩,
 ⟨.func,1,8,[.nilfn]⟩,
 ⟨.func,1,8,[.nilfn]⟩,
 ⟨.pointer 3,1,8,[.nilptr]⟩,
 ⟨.func,1,8,[.nilfn]⟩,
 ⟨.func,1,8,[.nilfn]⟩,
 ⟨.struct [(0,3),(1,3),(2,3),(3,3),(4,3),(5,4),(6,4),(7,4)],8,48,[.int .i64 0,.int .i64 0,.int .i64 0,.int .i64 0,.int .i64 0,.bool false,.bool false,.bool false]⟩,
 ⟨.struct [(0,3),(1,3),(2,3),(3,3),(4,3),(5,4),(6,4),(7,4)],8,48,[.int .i64 0,.int .i64 0,.int .i64 0,.int .i64 0,.int .i64 0,.bool false,.bool false,.bool false]⟩,
 ⟨.array 9 305,72,432,[.int .i64 0,.int .i64 0,.int .i64 0,.int .i64 0,.int .i64 0,.bool false,.bool false,.bool false,.int .i64 0,.int .i64 0,.int .i64 0,.int .i64 0,.int .i64 0,.bool false,.bool false,.bool false,.int .i64 0,.int .i64 0,.int .i64 0,.int .i64 0,.int .i64 0,.bool false,.bool false,.bool false,.int .i64 0,.int .i64 0,.int .i64 0,.int .i64 0,.int .i64 0,.bool false,.bool false,.bool false,.int .i64 0,.int .i64 0,.int .i64 0,.int .i64 0,.int .i64 0,.bool false,.bool false,.bool false,.int .i64 0,.int .i64 0,.int .i64 0,.int .i64 0,.int .i64 0,.bool false,.bool false,.bool false,.int .i64 0,.int .i64 0,.int .i64 0,.int .i64 0,.int .i64 0,.bool false,.bool false,.bool false,.int .i64 0,.int .i64 0,.int .i64 0,.int .i64 0,.int .i64 0,.bool false,.bool false,.bool false,.int .i64 0,.int .i64 0,.int .i64 0,.int .i64 0,.int .i64 0,.bool false,.bool false,.bool false]⟩,
 ⟨.func,1,8,[.nilfn]⟩,
 ⟨.func,1,8,[.nilfn]⟩,
 ⟨.func,1,8,[.nilfn]⟩,
 ⟨.func,1,8,[.nilfn]⟩,
 ⟨.func,1,8,[.nilfn]⟩,
 ⟨.func,1,8,[.nilfn]⟩,
 ⟨.func,1,8,[.nilfn]⟩,
 ⟨.func,1,8,[.nilfn]⟩,
 ⟨.func,1,8,[.nilfn]⟩,
 ⟨.func,1,8,[.nilfn]⟩,
 ⟨.func,1,8,[.nilfn]⟩,
 ⟨.func,1,8,[.nilfn]⟩,
 ⟨.func,1,8,[.nilfn]⟩,
 ⟨.func,1,8,[.nilfn]⟩,
 ⟨.func,1,8,[.nilfn]⟩,
 ⟨.func,1,8,[.nilfn]⟩,
 ⟨.pointer 297,1,8,[.nilptr]⟩,
 ⟨.other,1,0,[]⟩,
 ⟨.func,1,8,[.nilfn]⟩,
 ⟨.func,1,8,[.nilfn]⟩,
 ⟨.func,1,8,[.nilfn]⟩,
 ⟨.func,1,8,[.nilfn]⟩,
 ⟨.func,1,8,[.nilfn]⟩,
 ⟨.func,1,8,[.nilfn]⟩,
 ⟨.func,1,8,[.nilfn]⟩,
 ⟨.func,1,8,[.nilfn]⟩,
 ⟨.pointer 336,1,8,[.nilptr]⟩,
 ⟨.slice 5,1,24,[.nilsl]⟩,
 ⟨.struct [(0,333),(1,334)],2,32,[.nilptr,.nilsl]⟩,
 ⟨.struct [(0,333),(1,334)],2,32,[.nilptr,.nilsl]⟩,
 ⟨.func,1,8,[.nilfn]⟩,
 ⟨.iface,1,16,[.nilif]⟩,
 ⟨.iface,1,16,[.nilif]⟩,
 ⟨.other,1,0,[]⟩,
 ⟨.func,1,8,[.nilfn]⟩,
 ⟨.func,1,8,[.nilfn]⟩,
 ⟨.func,1,8,[.nilfn]⟩,
 ⟨.func,1,8,[.nilfn]⟩,
 ⟨.func,1,8,[.nilfn]⟩,
 ⟨.func,1,8,[.nilfn]⟩,
 ⟨.pointer 5,1,8,[.nilptr]⟩,
 ⟨.func,1,8,[.nilfn]⟩,
 ⟨.other,1,8,[.nilptr]⟩,
 ⟨.func,1,8,[.nilfn]⟩,
 ⟨.func,1,8,[.nilfn]⟩,
 ⟨.struct [(0,17),(1,17),(2,17),(3,9)],4,40,[.nilptr,.nilptr,.nilptr,.str []]⟩,
 ⟨.struct [(0,17),(1,17),(2,17),(3,9)],4,40,[.nilptr,.nilptr,.nilptr,.str []]⟩,
 ⟨.array 0 16,0,0,[]⟩,
 ⟨.struct [(0,354)],0,0,[]⟩,
 ⟨.struct [(0,354)],0,0,[]⟩,
 ⟨.int .u8,1,1,[.int .u8 0]⟩,
 ⟨.int .u8,1,1,[.int .u8 0]⟩,
 ⟨.func,1,8,[.nilfn]⟩,
 ⟨.int .i32,1,4,[.int .i32 0]⟩,
 ⟨.int .i32,1,4,[.int .i32 0]⟩,
 ⟨.struct [(0,12),(1,12),(2,247),(3,357),(4,5),(5,5),(6,358),(7,359),(8,347),(9,360),(10,361)],11,48,[.int .u64 0,.int .u64 0,.int .u32 0,.int .u8 0,.int .u8 0,.int .u8 0,.int .u8 0,.nilfn,.nilptr,.int .i32 0,.int .i32 0]⟩,
 ⟨.struct [(0,12),(1,12),(2,247),(3,357),(4,5),(5,5),(6,358),(7,359),(8,347),(9,360),(10,361)],11,48,[.int .u64 0,.int .u64 0,.int .u32 0,.int .u8 0,.int .u8 0,.int .u8 0,.int .u8 0,.nilfn,.nilptr,.int .i32 0,.int .i32 0]⟩]
def globs:List (Nat × DV):=[(0,glob_nameplan_record_rules)]
noncomputable def E:Env:=⟨Tryz.prog,types,globs,[37,78,83,93,109,181,213,251,305]⟩
theorem E_mixed:E.P.follows .mixedOrders=true:=by kernel_rfl
theorem types_all:(List.range 364).map (tinfo Tryz.prog)=types.map some:=by kernel_rfl
theorem eqs_all:E.Q.all (eqType E.P)=true:=by kernel_rfl
theorem E_ok:E.OK:=⟨fun t i hi=>by
 have h:=congrArg (·[t]?) types_all;simp only [List.getElem?_map] at h;have hi':types[t]? = some i:=hi;rw [hi'] at h;cases hr:(List.range 364)[t]? with
 |none=>rw [hr] at h; cases h
 |some u =>
  have hu:u=t:=by
   have hlt:t<364:=by
    rcases Nat.lt_or_ge t 364 with h | h
    ·exact h
    ·rw [List.getElem?_eq_none (by simpa using h)] at hr; cases hr
   simp [hlt] at hr;exact hr.symm
  subst hu;rw [hr] at h;have h2:tinfo Tryz.prog u=some i:=by simpa using h
  exact h2,fun t ht=>List.all_eq_true.1 eqs_all t ht⟩
end Go.Proofs.YthikfaephakahaaGreatDoor
end
section
namespace Go.Proofs.YthikfaephakahaaGreatDoor.P
open Go Go.Eng
abbrev Text:=List UInt8
structure Datum where
 text:Text
 n:Int
 m:Int
 deriving DecidableEq
structure RSet where
 name:Text
 type:Int
 life:Int
 data:List Datum
 deriving DecidableEq
structure Key where
 n:Int
 alg:Int
 deriving DecidableEq
structure Sig where
 zone:Text
 key:Int
 alg:Int
 frm:Int
 upto:Int
 sum:Int
 deriving DecidableEq
structure Signed where
 set:RSet
 sigs:List Sig
 deriving DecidableEq
structure Zone where
 apex:Text
 sets:List Signed
 deriving DecidableEq
@[reducible] def Datum.enc (d : Datum) : DV := .agg [.str d.text, .int .i64 d.n, .int .i64 d.m]
@[reducible] def encData (l : List Datum) : DV := .sl (l.map Datum.enc)
@[reducible] def RSet.enc (s : RSet) : DV := .agg [.str s.name, .int .i64 s.type, .int .i64 s.life, encData s.data]
@[reducible] def Key.enc (k : Key) : DV := .agg [.int .i64 k.n, .int .i64 k.alg]
@[reducible] def Sig.enc (g : Sig) : DV := .agg [.str g.zone, .int .i64 g.key, .int .i64 g.alg, .int .i64 g.frm, .int .i64 g.upto, .int .u64 g.sum]
@[reducible] def encSigs (l : List Sig) : DV := .sl (l.map Sig.enc)
@[reducible] def Signed.enc (x : Signed) : DV := .agg [.str x.set.name, .int .i64 x.set.type, .int .i64 x.set.life, encData x.set.data, encSigs x.sigs]
@[reducible] def encSets (l : List Signed) : DV := .sl (l.map Signed.enc)
@[reducible] def Zone.enc (z : Zone) : DV := .agg [.str z.apex, encSets z.sets]
def I64 (n:Int):Prop := -9223372036854775808≤n∧n≤9223372036854775807
theorem wrap64 {n:Int} (h1 : -9223372036854775808≤n) (h2:n≤9223372036854775807):IntKind.i64.wrap n=n:=by
 rw [IntWalk.i64_in n ⟨h1,h2⟩]
theorem gO {fid:FuncId} {fn:Func} (hf:E.P.funcs[fid]? = some fn) {R:Post} {lits:List Nat} {td:List AItem} {s:List AV} {h:List Box} {P Q:Prop} (H:Q) (e0:P=AWL E fid R lits td s h:=by (conv=>lhs; whnf)) (e1:runK E fid fn.results.toList R 2000 lits td s h=Q:=by (conv=>lhs; whnf)):P:=by
 rw [e0];exact AWL.run E_ok hf 2000 (e1 ▸ H)
theorem gD {fid:FuncId} {R:Post} {ops:Array Oper} {k:List AItem} {lits:List Nat} {pre suf:List Oper} {s:List AV} {h:List Box} {P Q:Prop} (H:Q) (e0:P=DWL E fid R ops k lits pre suf s h:=by (conv=>lhs; whnf)) (e1:drunK E fid R ops k 2000 lits pre suf s h=Q:=by (conv=>lhs; whnf)):P:=by
 rw [e0];exact DWL.run E_ok 2000 (e1 ▸ H)
theorem gS {fid:FuncId} {R:Post} {ops:Array Oper} {k:List AItem} {lits:List Nat} {suf:List Oper} {s:List AV} {h:List Box} {P Q:Prop} (H:Q) (e0:P=SWL E fid R ops k lits suf s h:=by (conv=>lhs; whnf)) (e1:srunK E fid R ops k 2000 lits suf s h=Q:=by (conv=>lhs; whnf)):P:=by
 rw [e0];exact SWL.run E_ok 2000 (e1 ▸ H)
theorem gA {fid:FuncId} {fn:Func} (hf:E.P.funcs[fid]? = some fn) {R:Post} {lits:List Nat} {td:List AItem} {s:List AV} {h:List Box} {P Q:Prop} (H:Q) (e0:P=AWL E fid R lits td s h:=by (conv=>lhs; whnf)) (e1:runK E fid fn.results.toList R 2000 lits td s h=Q:=by (conv=>lhs; whnf)) (_:Q→Q:=by (intro h; (fail_if_success (with_reducible refine AWL.of ?_)); exact h)):P:=gO hf H e0 e1
theorem gB {fid:FuncId} {R:Post} {ops:Array Oper} {k:List AItem} {lits:List Nat} {pre suf:List Oper} {s:List AV} {h:List Box} {P Q:Prop} (H:Q) (e0:P=DWL E fid R ops k lits pre suf s h:=by (conv=>lhs; whnf)) (e1:drunK E fid R ops k 2000 lits pre suf s h=Q:=by (conv=>lhs; whnf)) (_:Q→Q:=by (intro h; (fail_if_success (with_reducible refine DWL.is ?_)); exact h)):P:=gD H e0 e1
theorem gC {fid:FuncId} {R:Post} {ops:Array Oper} {k:List AItem} {lits:List Nat} {suf:List Oper} {s:List AV} {h:List Box} {P Q:Prop} (H:Q) (e0:P=SWL E fid R ops k lits suf s h:=by (conv=>lhs; whnf)) (e1:srunK E fid R ops k 2000 lits suf s h=Q:=by (conv=>lhs; whnf)) (_:Q→Q:=by (intro h; (fail_if_success (with_reducible refine SWL.is ?_)); exact h)):P:=gS H e0 e1
theorem eP {f : FuncId} {fn : Func} (hf : E.P.funcs[f]? = some fn) {args : List DV} {R : DV → Prop} {Q : Prop} (H : Q) (hb : fn.body = some (fn.body.getD .skip) := by rfl) (hn : (fn.name == "runtime.NumGoroutine") = false := by decide) (e : (mapK .d args fun a => runK E f fn.results.toList ⟨0, deepQ R, [], ⟨f, none, [], [], [], []⟩⟩ 2000 [] [.code (fn.body.getD .skip)] (enterS a fn.ntmps) []) = Q := by (conv => lhs; whnf)) : PCalls E f args R := PCalls.run E_ok hf hb hn 2000 (e ▸ H)
def rg (a:Nat):Nat→List Nat
 | 0=>[]
 |n+1=>a::rg (a+1) n
theorem sI {P Q:Prop} (q:Q) (p:P:=by first | with_reducible rfl | exact congrArg (DV.int .i64) (by omega) | exact congrArg (DV.int .i64) (wrap64 (by omega) (by omega)) | exact congrArg (DV.int .i64) ((wrap64 (by omega) (by omega)).trans (by omega))):P∧Q:=⟨p,q⟩
theorem cY {b:Bool} {A B:Prop} (h:A) (hb:b=true:=by first | decide | assumption):caseB b A B:=caseB_yes hb h
theorem cN {b:Bool} {A B:Prop} (h:B) (hb:b=false:=by first | decide | assumption):caseB b A B:=caseB_no hb h
end Go.Proofs.YthikfaephakahaaGreatDoor.P
end
section
namespace Go.Proofs.YthikfaephakahaaGreatDoor.P
open Go Go.Eng
set_option maxRecDepth 100000
theorem ofText {f:FuncId} {g:List UInt8→DV} (t:List UInt8) (hb:HasBody E.P f) (h:∀ (w:World),Calls Tryz.prog f #[.string ⟨t.toArray⟩] w fun e w'=>∃ v,e = .returned v∧(∀ bad w,VD bad w (g t) v)∧Ext w w'):PCalls E f [.str t] (· = g t):=by
 unfold PCalls;refine ⟨hb,fun bar w vs _ _ hv=>?_⟩;obtain ⟨hl,hv⟩:=hv;obtain ⟨v,rfl⟩:∃ v,vs=[v]:=by
  cases vs with
  |nil=>simp at hl
  |cons v r=>cases r with
   |nil=>exact ⟨v,rfl⟩
   |cons u r=>simp at hl
 have:=hv 0 (.str t) v rfl rfl;cases this;exact (h w).mono fun e w' ⟨v,h1,h2,h3⟩=>⟨v,_,h1,rfl,h2 _ _,h3⟩
theorem ofTexts {f:FuncId} {g:List UInt8→List UInt8→DV} (t u:List UInt8) (hb:HasBody E.P f) (h:∀ (w:World),Calls Tryz.prog f #[.string ⟨t.toArray⟩,.string ⟨u.toArray⟩] w fun e w'=>∃ v,e = .returned v∧(∀ bad w,VD bad w (g t u) v)∧Ext w w'):PCalls E f [.str t,.str u] (· = g t u):=by
 unfold PCalls;refine ⟨hb,fun bar w vs _ _ hv=>?_⟩;obtain ⟨hl,hv⟩:=hv;obtain ⟨v1,v2,rfl⟩:∃ v1 v2,vs=[v1,v2]:=by
  match vs,hl with
  | [v1,v2],_=>exact ⟨v1,v2,rfl⟩
 have h1:=hv 0 (.str t) v1 rfl rfl;have h2:=hv 1 (.str u) v2 rfl rfl;cases h1;cases h2;exact (h w).mono fun e w' ⟨v,h1,h2,h3⟩=>⟨v,_,h1,rfl,h2 _ _,h3⟩
theorem toL_mk (t:List UInt8):toL ⟨t.toArray⟩=t:=by simp [toL]
theorem size_mk {t:List UInt8} (h:t.length≤maxLen):(ByteArray.mk t.toArray).size≤maxLen:=by simpa [ByteArray.size] using h
theorem nvalid_p (t:List UInt8) (ht:t.length≤maxLen):PCalls E 68 [.str t] (· = .bool (Nm.valid t)) :=
 ofText (g:=fun t => .bool (Nm.valid t)) t ⟨_,Tryz.func68,rfl,by decide⟩ fun w=>(nvalid_any ⟨t.toArray⟩ w (size_mk ht)).mono fun e w' ⟨h1,h2⟩=>⟨_,h1,fun _ _=>by rw [toL_mk]; exact .bool _,h2⟩
theorem rvalid_p (t:List UInt8) (ht:t.length≤maxLen):PCalls E 42 [.str t] (· = .bool (Nm.valid t)) :=
 ofText (g:=fun t => .bool (Nm.valid t)) t ⟨_,Tryz.func42,rfl,by decide⟩ fun w=>(rvalid1_any ⟨t.toArray⟩ w (size_mk ht)).mono fun e w' ⟨h1,h2⟩=>⟨_,h1,fun _ _=>by rw [toL_mk]; exact .bool _,h2⟩
theorem rwild_p (t:List UInt8) (ht:t.length≤maxLen):PCalls E 273 [.str t] (· = .bool (Nm.wild t)) :=
 ofText (g:=fun t => .bool (Nm.wild t)) t ⟨_,Tryz.func273,rfl,by decide⟩ fun w=>(rwild_any ⟨t.toArray⟩ w (size_mk ht)).mono fun e w' ⟨h1,h2⟩=>⟨_,h1,fun _ _=>by rw [toL_mk]; exact .bool _,by subst h2; exact Ext.refl _⟩
theorem within_p (x a b:Int):PCalls E 255 [.int .i64 x,.int .i64 a,.int .i64 b] (· = .bool (decide (a≤x)&&decide (x≤b))):=by
 refine eP Tryz.func255 ?_;refine caseB_split (fun h=>?_) (fun h=>?_)
 ·refine gO Tryz.func255 ?_;rw [h]; rfl
 ·refine gO Tryz.func255 ?_;rw [h]; rfl
theorem withinb_p (x a b:Int):PCalls E 314 [.int .u8 x,.int .u8 a,.int .u8 b] (· = .bool (decide (a≤x)&&decide (x≤b))):=by
 refine eP Tryz.func314 ?_;refine caseB_split (fun h=>?_) (fun h=>?_)
 ·refine gO Tryz.func314 ?_;rw [h]; rfl
 ·refine gO Tryz.func314 ?_;rw [h]; rfl
theorem isNaNi_p (x:Int):PCalls E 120 [.int .i64 x] (· = .bool false):=by
 refine eP Tryz.func120 ?_;simp
theorem isNaNs_p (x:List UInt8):PCalls E 315 [.str x] (· = .bool false):=by
 refine eP Tryz.func315 ?_;simp
def cmpI (a b:Int):Int:=if a<b then -1 else if b<a then 1 else 0
theorem cmpI_p (a b:Int):PCalls E 59 [.int .i64 a,.int .i64 b] (· = .int .i64 (cmpI a b)):=by
 refine eP Tryz.func59 ?_;repeat' (first | with_reducible refine callP_eq (isNaNi_p _) ?_ | with_reducible refine callP1_eq (isNaNi_p _) ?_ | with_reducible refine cY ?_ | with_reducible refine cN ?_ | with_reducible refine caseB_split (fun _=>?_) (fun _=>?_) | refine gA Tryz.func59 ?_ | refine gB ?_ | refine gC ?_ | with_reducible rfl)
 all_goals (simp_all [cmpI])
 all_goals omega
def cmpS (a b:List UInt8):Int:=if Op.bytesLess a b then -1 else if a=b then 0 else 1
theorem cmpS_p (a b:List UInt8):PCalls E 294 [.str a,.str b] (· = .int .i64 (cmpS a b)):=by
 refine eP Tryz.func294 ?_;repeat' (first | with_reducible refine callP_eq (isNaNs_p _) ?_ | with_reducible refine callP1_eq (isNaNs_p _) ?_ | with_reducible refine cY ?_ | with_reducible refine cN ?_ | with_reducible refine caseB_split (fun _=>?_) (fun _=>?_) | refine gA Tryz.func294 ?_ | refine gB ?_ | refine gC ?_ | with_reducible rfl)
 all_goals (simp_all [cmpS])
end Go.Proofs.YthikfaephakahaaGreatDoor.P
end
section
namespace Go.Proofs.YthikfaephakahaaGreatDoor.P
open Go Go.Eng
set_option maxRecDepth 100000
theorem elem_map {α:Type} {f:α→DV} {l:List α} {k:Nat} {x:α} (hx:l[k]? = some x):(l.map f)[((k:Nat):Int).toNat]? = some (f x):=by
 simp [hx]
theorem some_of_lt {α:Type} {l:List α} {k:Nat} (h:k<l.length):∃ x,l[k]? = some x:=⟨l[k],by simp [h]⟩
def orI:List Int→Int
 | []=>0
 |x::l=>if x=0 then orI l else x
theorem orI_zero {l:List Int}:∀ {k:Nat},(∀ j,j<k→l[j]? = some 0)→orI l=orI (l.drop k)
 | 0,_=>rfl
 |k+1,h=>by
  cases l with
  |nil=>rfl
  |cons x l =>
   have h0:=h 0 (by omega);simp at h0;subst h0;simp only [orI,if_true,List.drop_succ_cons];exact orI_zero fun j hj=>by have:=h (j+1) (by omega); simpa using this
theorem orI_p (l:List Int) (hl:l.length≤2147483648):PCalls E 209 [.sl (l.map (.int .i64))] (· = .int .i64 (orI l)):=by
 refine eP Tryz.func209 ?_;refine AWL.loop (κ:=Nat) ([2,5]++rg 8 9) (fun k=>[(8,.d (.int .i64 k)),(2,.d (.int .i64 0))]) (fun _=>[]) (fun k=>k≤l.length∧∀ j,j<k→l[j]? = some 0) (fun k=>l.length - k) 0 ⟨Nat.zero_le _,fun j h=>by omega⟩ ?_ ?_
 ·(conv=>whnf);repeat (first | exact trivial | (refine sI ?_; conv=>whnf))
 ·intro k hk IH;refine AWL.head E_ok Tryz.func209 2000 ?_;(conv=>whnf);refine caseB_split (fun h1=>?_) (fun h1=>?_)
  ·simp at h1;obtain ⟨x,hx⟩:=some_of_lt h1;refine gO Tryz.func209 ?_;refine elemP_intro (.int .i64 x) (by omega) (elem_map hx) rfl ?_;refine gO Tryz.func209 ?_;refine caseB_split (fun h2=>?_) (fun h2=>?_)
   ·refine gO Tryz.func209 ?_;have hne:x≠0:=by simpa using h2
    rw [orI_zero hk.2,List.drop_eq_getElem_cons h1];have:l[k]=x:=by simpa [h1] using hx
    simp only [orI,this,if_neg hne]
   ·refine gO Tryz.func209 ?_;have h0:x=0:=by simpa using h2
    subst h0;refine AWL.back (IH (k+1) ⟨by omega,fun j hj=>?_⟩ (by omega)) ?_
    ·rcases Nat.lt_or_ge j k with h | h
     ·exact hk.2 j h
     ·obtain rfl:j=k:=by omega
      exact hx
    ·(conv=>whnf);repeat (first | exact trivial | (refine sI ?_; conv=>whnf))
  ·simp at h1;refine gO Tryz.func209 ?_;rw [orI_zero hk.2,List.drop_of_length_le h1];rfl
def cmpD (a b:Datum):Int:=orI [cmpS a.text b.text,cmpI a.n b.n,cmpI a.m b.m]
theorem cmpD_p (a b:Datum):PCalls E 258 [a.enc,b.enc] (· = .int .i64 (cmpD a b)):=by
 refine eP Tryz.func258 ?_;refine AWL.draw E_ok E_mixed 18 2000 (by kernel_rfl) ?_;conv=>whnf
 with_reducible refine callP1_eq (cmpS_p _ _) ?_
 refine gD ?_
 with_reducible refine callP1_eq (cmpI_p _ _) ?_
 refine gD ?_
 with_reducible refine callP1_eq (cmpI_p _ _) ?_
 refine gD ?_;refine callP1_eq (orI_p [cmpS a.text b.text,cmpI a.n b.n,cmpI a.m b.m] (by simp)) ?_;refine gD ?_;refine gS ?_;refine gO Tryz.func258 ?_;rfl
def preB (a b:List UInt8):Bool:=b.isPrefixOf a
theorem pre_take {a b:List UInt8}:(a.take b.length==b)=preB a b:=by
 unfold preB;rw [Bool.eq_iff_iff,beq_iff_eq,List.isPrefixOf_iff_prefix];constructor
 ·intro e; rw [← e]; exact List.take_prefix _ _
 ·intro e; exact (List.prefix_iff_eq_take.1 e).symm
theorem pre_long {a b:List UInt8} (h:a.length<b.length):preB a b=false:=by
 unfold preB;rw [Bool.eq_false_iff];intro e;have:=(List.isPrefixOf_iff_prefix.1 e).length_le;omega
theorem hasPrefix0_p (a b:List UInt8):PCalls E 286 [.str a,.str b] (· = .bool (preB a b)):=by
 refine eP Tryz.func286 ?_;refine caseB_split (fun h=>?_) (fun h=>?_)
 ·simp at h;refine gO Tryz.func286 ?_;refine need_intro ⟨by simp,by simp,by simp; omega⟩ ?_;refine gO Tryz.func286 ?_;simp;exact pre_take
 ·simp at h;refine gO Tryz.func286 ?_;rw [pre_long h]
theorem hasPrefix_p (a b:List UInt8):PCalls E 233 [.str a,.str b] (· = .bool (preB a b)):=by
 refine eP Tryz.func233 ?_
 with_reducible refine callP_eq (hasPrefix0_p _ _) ?_
 refine gO Tryz.func233 ?_
 with_reducible rfl
theorem pre_star (a:List UInt8):preB a [42]=Nm.wild a:=by
 cases a with
 |nil=>rfl
 |cons c a =>
  show ((42:UInt8)==c&&List.isPrefixOf [] a)=(c==42);simp only [List.isPrefixOf,Bool.and_true];exact BEq.comm
theorem isWild_p (a:List UInt8):PCalls E 256 [.str a] (· = .bool (Nm.wild a)):=by
 refine eP Tryz.func256 ?_
 with_reducible refine callP_eq (hasPrefix_p _ _) ?_
 refine gO Tryz.func256 ?_;exact congrArg _ (pre_star a)
def okc (c:UInt8):Bool:=(decide (97≤(c.toNat:Int))&&decide ((c.toNat:Int)≤122))||(decide (48≤(c.toNat:Int))&&decide ((c.toNat:Int)≤57))||((c.toNat:Int)==32)
def freeB (t:List UInt8):Bool:=decide (1≤(t.length:Int))&&decide ((t.length:Int)≤40) && !(t.head?.any fun c=>(c.toNat:Int)==32) && !(t.getLast?.any fun c=>(c.toNat:Int)==32)&&t.all okc
theorem freeB_of {t:List UInt8} (h1:1≤t.length) (h2:t.length≤40) {c0 c1:UInt8} (h3:t[0]? = some c0) (h4:t[t.length - 1]? = some c1) (h5:((c0.toNat:Int)==32)=false) (h6:((c1.toNat:Int)==32)=false):freeB t=t.all okc:=by
 have e1:t.head? = some c0:=by rw [← h3]; exact List.head?_eq_getElem?
 have e2:t.getLast? = some c1:=by rw [← h4,List.getLast?_eq_getElem?]
 have e3:decide (1≤(t.length:Int))=true:=by simp; omega
 have e4:decide ((t.length:Int)≤40)=true:=by simp; omega
 simp only [freeB,e1,e2,e3,e4,Option.any_some,h5,h6,Bool.not_false,Bool.and_self,Bool.true_and]
theorem okF {a b:Bool} {x y:Int} (h1:(!a)=true) (h2:(!b)=true) (h3:(x != y)=true):(a||b||(x==y))=false:=by
 cases a <;> cases b <;> simp_all
theorem okT1 {a b d:Bool} (h:(!a)=false):(a||b||d)=true:=by cases a <;> simp_all
theorem okT2 {a b d:Bool} (h:(!b)=false):(a||b||d)=true:=by cases b <;> simp_all
theorem okT3 {a b:Bool} {x y:Int} (h:(x != y)=false):(a||b||(x==y))=true:=by simp_all
theorem isFree_p (t:List UInt8):PCalls E 293 [.str t] (· = .bool (freeB t)):=by
 refine eP Tryz.func293 ?_
 with_reducible refine callP_eq (within_p _ _ _) ?_
 refine gO Tryz.func293 ?_;refine caseB_split (fun h1=>?_) (fun h1=>?_)
 ·refine gO Tryz.func293 ?_;refine caseB_true ?_;refine gO Tryz.func293 ?_;refine caseB_true ?_;refine gO Tryz.func293 ?_;have:(decide (1≤(t.length:Int))&&decide ((t.length:Int)≤40))=false:=by rw [Bool.not_eq_true'] at h1; exact h1
  simp only [freeB,this,Bool.false_and]
 ·have hb:1≤t.length∧t.length≤40:=by simp at h1; omega
  obtain ⟨c0,hc0⟩:=some_of_lt (l:=t) (k:=0) (by omega);obtain ⟨c1,hc1⟩:=some_of_lt (l:=t) (k:=t.length - 1) (by omega);have hw:(IntKind.i64.wrap (t.length - 1))=((t.length - 1:Nat):Int):=by rw [wrap64 (by omega) (by omega)]; omega
  refine gO Tryz.func293 ?_;refine byteP_intro c0 (by decide) hc0 ?_;refine gO Tryz.func293 ?_;refine caseB_split (fun h2=>?_) (fun h2=>?_)
  ·refine gO Tryz.func293 ?_;refine caseB_true ?_;refine gO Tryz.func293 ?_;have e1:t.head? = some c0:=by rw [← hc0]; exact List.head?_eq_getElem?
   simp only [freeB,e1,Option.any_some,h2,Bool.not_true,Bool.and_false,Bool.false_and]
  ·refine gO Tryz.func293 ?_;rw [hw];refine byteP_intro c1 (by omega) (by rw [Int.toNat_natCast]; exact hc1) ?_;refine gO Tryz.func293 ?_;refine caseB_split (fun h3=>?_) (fun h3=>?_)
   ·refine gO Tryz.func293 ?_;have e2:t.getLast? = some c1:=by rw [← hc1,List.getLast?_eq_getElem?]
    simp only [freeB,e2,Option.any_some,h3,Bool.not_true,Bool.and_false,Bool.false_and]
   ·rw [freeB_of hb.1 hb.2 hc0 hc1 h2 h3];refine gO Tryz.func293 ?_;refine AWL.loop (κ:=Nat) ([3,4,2]++rg 24 19) (fun k=>[(24,.d (.int .i64 k))]) (fun _=>[]) (fun k=>k≤t.length∧∀ j c,j<k→t[j]? = some c→okc c=true) (fun k=>t.length - k) 0 ⟨Nat.zero_le _,fun j c h=>by omega⟩ ?_ ?_
    ·(conv=>whnf);repeat (first | exact trivial | (refine sI ?_; conv=>whnf))
    ·intro k hk IH;have no:∀ c,t[k]? = some c→okc c=false→t.all okc=false:=fun c hc h=>by
      rw [Bool.eq_false_iff];intro hall;have:=List.all_eq_true.1 hall c (List.mem_of_getElem? hc);rw [h] at this;cases this
     refine AWL.head E_ok Tryz.func293 2000 ?_;(conv=>whnf);refine caseB_split (fun h4=>?_) (fun h4=>?_)
     ·simp at h4;obtain ⟨c,hc⟩:=some_of_lt h4;have next:okc c=true→∀ j c',j<k+1→t[j]? = some c'→okc c'=true:=fun ho j c' hj hc'=>by
       rcases Nat.lt_or_ge j k with h | h
       ·exact hk.2 j c' h hc'
       ·obtain rfl:j=k:=by omega
        rw [hc] at hc'; cases hc'; exact ho
      refine gO Tryz.func293 ?_;refine byteP_intro c (by omega) (by rw [Int.toNat_natCast]; exact hc) ?_;refine gO Tryz.func293 ?_
      with_reducible refine callP_eq (withinb_p _ _ _) ?_
      refine gO Tryz.func293 ?_;refine caseB_split (fun h5=>?_) (fun h5=>?_)
      ·refine gO Tryz.func293 ?_
       with_reducible refine callP_eq (withinb_p _ _ _) ?_
       refine gO Tryz.func293 ?_;refine caseB_split (fun h6=>?_) (fun h6=>?_)
       ·refine gO Tryz.func293 ?_;refine caseB_split (fun h7=>?_) (fun h7=>?_)
        ·refine gO Tryz.func293 ?_;rw [no c hc (okF h5 h6 h7)]
        ·refine gO Tryz.func293 ?_;refine AWL.back (IH (k+1) ⟨by omega,next (okT3 h7)⟩ (by omega)) ?_;(conv=>whnf);repeat (first | exact trivial | (refine sI ?_; conv=>whnf))
       ·refine gO Tryz.func293 ?_;refine caseB_false ?_;refine gO Tryz.func293 ?_;refine AWL.back (IH (k+1) ⟨by omega,next (okT2 h6)⟩ (by omega)) ?_;(conv=>whnf);repeat (first | exact trivial | (refine sI ?_; conv=>whnf))
      ·refine gO Tryz.func293 ?_;refine caseB_false ?_;refine gO Tryz.func293 ?_;refine caseB_false ?_;refine gO Tryz.func293 ?_;refine AWL.back (IH (k+1) ⟨by omega,next (okT1 h5)⟩ (by omega)) ?_;(conv=>whnf);repeat (first | exact trivial | (refine sI ?_; conv=>whnf))
     ·simp at h4;refine gO Tryz.func293 ?_;have:t.all okc=true:=by
       rw [List.all_eq_true];intro c hc;obtain ⟨j,hj⟩:=List.getElem?_of_mem hc;exact hk.2 j c (by have:=lt_of_getElem? hj; omega) hj
      rw [this]
end Go.Proofs.YthikfaephakahaaGreatDoor.P
end
section
namespace Go.Proofs.YthikfaephakahaaGreatDoor.P
open Go Go.Eng
set_option maxRecDepth 100000
structure Rule where
 text:Int
 leastN:Int
 mostN:Int
 leastM:Int
 mostM:Int
 even:Bool
 single:Bool
 wild:Bool
@[reducible] def Rule.enc (r : Rule) : DV := .agg [.int .i64 r.text, .int .i64 r.leastN, .int .i64 r.mostN, .int .i64 r.leastM, .int .i64 r.mostM, .bool r.even, .bool r.single, .bool r.wild]
def ruleOf:Nat→Rule
 | 1=>⟨0,1,1000000,0,0,false,false,true⟩
 | 2=>⟨1,0,0,0,0,false,false,false⟩
 | 3=>⟨1,0,0,0,0,false,true,false⟩
 | 4=>⟨0,0,65535,0,100000,false,true,false⟩
 | 5=>⟨3,0,0,0,0,false,false,true⟩
 | 6=>⟨0,1,1000000,1,3,false,false,false⟩
 | 7=>⟨0,1,1000000,1,3,false,false,false⟩
 | 8=>⟨2,2,510,0,0,true,false,true⟩
 |_=>⟨0,0,0,0,0,false,false,false⟩
def textOK (r:Rule) (t:Text):Bool:=if r.text=1 then Nm.valid t && !Nm.wild t else if r.text=2 then Nm.valid t else if r.text=3 then freeB t else t==[]
def datumOK (r:Rule) (d:Datum):Bool :=
 (decide (r.leastN≤d.n)&&decide (d.n≤r.mostN))&&(decide (r.leastM≤d.m)&&decide (d.m≤r.mostM)) && !(r.even&&(d.n.tmod 2 != 0))&&textOK r d.text
theorem datumOK_p (r:Rule) (d:Datum) (hd:d.text.length≤maxLen):PCalls E 257 [r.enc,d.enc] (· = .bool (datumOK r d)):=by
 obtain ⟨rt,r1,r2,r3,r4,re,rs,rw⟩:=r;refine eP Tryz.func257 ?_;repeat' (first | with_reducible refine callP_eq (within_p _ _ _) ?_ | with_reducible refine callP1_eq (within_p _ _ _) ?_ | with_reducible refine callP_eq (nvalid_p _ hd) ?_ | with_reducible refine callP1_eq (nvalid_p _ hd) ?_ | with_reducible refine callP_eq (isWild_p _) ?_ | with_reducible refine callP1_eq (isWild_p _) ?_ | with_reducible refine callP_eq (isFree_p _) ?_ | with_reducible refine callP1_eq (isFree_p _) ?_ | with_reducible refine cY ?_ | with_reducible refine cN ?_ | with_reducible refine caseB_split (fun _=>?_) (fun _=>?_) | refine gA Tryz.func257 ?_ | refine gB ?_ | refine gC ?_ | with_reducible rfl)
 all_goals simp_all [datumOK,textOK]
 all_goals (intros; exfalso; omega)
theorem rules_at {k:Nat} (h1:1≤k) (h8:k≤8):∃ cs,glob_nameplan_record_rules = .agg cs∧(cs.drop (k*8)).take 8=(ruleOf k).enc.cells:=by
 refine ⟨_,rfl,?_⟩
 match k,h1,h8 with
 | 1,_,_=>rfl
 | 2,_,_=>rfl
 | 3,_,_=>rfl
 | 4,_,_=>rfl
 | 5,_,_=>rfl
 | 6,_,_=>rfl
 | 7,_,_=>rfl
 | 8,_,_=>rfl
structure RSet.Fits (s:RSet):Prop where
 name:s.name.length≤maxLen
 data:s.data.length≤2147483648
 texts:∀ d∈s.data,d.text.length≤maxLen
def dataB (r:Rule):Option Datum→List Datum→Bool
 |_,[]=>true
 |p,d::l=>datumOK r d&&(match p with | none=>true | some e=>decide (cmpD e d<0))&&dataB r (some d) l
def prevD (l:List Datum) (k:Nat):Option Datum:=if k=0 then none else l[k - 1]?
theorem dataB_next {r:Rule} {l:List Datum} {k:Nat} {d:Datum} (hd:l[k]? = some d):dataB r (prevD l k) (l.drop k)=(datumOK r d&&(match prevD l k with | none=>true | some e=>decide (cmpD e d<0))&&dataB r (prevD l (k+1)) (l.drop (k+1))):=by
 have hk:=lt_of_getElem? hd;rw [List.drop_eq_getElem_cons hk];have e1:l[k]=d:=by simpa [hk] using hd
 have e2:prevD l (k+1)=some d:=by simp [prevD,hd]
 rw [e1,e2];rfl
def setOK (s:RSet):Bool:=Nm.valid s.name&&(decide (1≤s.type)&&decide (s.type≤8))&&(decide (0≤s.life)&&decide (s.life≤100000))&&(decide (1≤(s.data.length:Int))&&decide ((s.data.length:Int)≤8)) &&
 !((ruleOf s.type.toNat).single&&((s.data.length:Int) != 1)) && !(Nm.wild s.name && !(ruleOf s.type.toNat).wild)&&dataB (ruleOf s.type.toNat) none s.data
set_option linter.unusedSimpArgs false in
theorem setOK_p (s:RSet) (hf:s.Fits):PCalls E 193 [s.enc] (· = .bool (setOK s)):=by
 refine eP Tryz.func193 ?_;repeat' (first | with_reducible refine callP_eq (nvalid_p _ hf.name) ?_ | with_reducible refine callP1_eq (nvalid_p _ hf.name) ?_ | with_reducible refine callP_eq (within_p _ _ _) ?_ | with_reducible refine callP1_eq (within_p _ _ _) ?_ | with_reducible refine cY ?_ | with_reducible refine cN ?_ | with_reducible refine caseB_split (fun _=>?_) (fun _=>?_) | refine gA Tryz.func193 ?_ | refine gB ?_ | refine gC ?_ | with_reducible rfl)
 all_goals try (simp only [Bool.not_eq_true',Bool.not_eq_false',List.length_map] at *; simp only [setOK, *,Bool.false_and,Bool.and_false]; done)
 rename_i h1 h2 h3 h4;rw [List.length_map] at h4;rw [Bool.not_eq_false'] at h1 h2 h3 h4;have ht:1≤s.type∧s.type≤8:=by simpa using h2
 have hl:1≤s.data.length∧s.data.length≤8:=by simp at h4; omega
 obtain ⟨t,ht'⟩:=Int.eq_ofNat_of_zero_le (a:=s.type) (by omega);obtain ⟨cs,hcs,hrule⟩:=rules_at (k:=t) (by omega) (by omega);cases hcs;refine cellP_intro (ruleOf t).enc (by omega) (by omega) (by decide) (by rw [ht']; exact hrule) rfl ?_;have hset:setOK s=(!((ruleOf t).single&&((s.data.length:Int) != 1)) && !(Nm.wild s.name && !(ruleOf t).wild)&&dataB (ruleOf t) none s.data):=by
  simp only [setOK,h1,h2,h3,h4,Bool.true_and];rw [ht',Int.toNat_natCast]
 rw [hset];generalize ruleOf t=r;clear hset hrule;refine gO Tryz.func193 ?_;repeat' (first | with_reducible refine callP_eq (isWild_p _) ?_ | with_reducible refine callP1_eq (isWild_p _) ?_ | with_reducible refine cY ?_ | with_reducible refine cN ?_ | with_reducible refine caseB_split (fun _=>?_) (fun _=>?_) | refine gA Tryz.func193 ?_ | refine gB ?_ | refine gC ?_ | with_reducible rfl)
 all_goals try (simp only [List.length_map,Bool.not_eq_true',Bool.not_eq_false'] at *; simp only [*,Bool.true_and,Bool.not_true,Bool.not_false,Bool.and_false,Bool.false_and,Bool.and_self]; done)
 all_goals
  have hfin:(!(r.single&&((s.data.length:Int) != 1)) && !(Nm.wild s.name && !r.wild)&&dataB r none s.data)=dataB r none s.data:=by
   try simp only [List.length_map] at *
   simp only [*,Bool.not_true,Bool.not_false,Bool.and_false,Bool.false_and,Bool.and_self,Bool.true_and]
  rw [hfin];clear hfin;refine gO Tryz.func193 ?_;refine AWL.loop (κ:=Nat) ([2,4,5]++rg 52 25) (fun k=>[(52,.d (.int .i64 k))]) (fun _=>[]) (fun k=>k≤s.data.length∧dataB r none s.data=dataB r (prevD s.data k) (s.data.drop k)) (fun k=>s.data.length - k) 0 ⟨Nat.zero_le _,rfl⟩ ?_ ?_
  ·(conv=>whnf);repeat (first | exact trivial | (refine sI ?_; conv=>whnf))
  ·intro k hk IH;refine AWL.head E_ok Tryz.func193 2000 ?_;(conv=>whnf);refine caseB_split (fun h5=>?_) (fun h5=>?_)
   ·have hlt:k<s.data.length:=by simpa using h5
    obtain ⟨d,hd⟩:=some_of_lt hlt;have hnext:=dataB_next (r:=r) hd;rw [← hk.2] at hnext;refine gO Tryz.func193 ?_;refine elemP_intro d.enc (by omega) (elem_map hd) rfl ?_;refine gO Tryz.func193 ?_;refine AWL.draw E_ok E_mixed 19 2000 (by kernel_rfl) ?_;conv=>whnf
    with_reducible refine callP1_eq (datumOK_p r d (hf.texts d (List.mem_of_getElem? hd))) ?_
    refine gD ?_;refine caseB_split (fun h6=>?_) (fun h6=>?_)
    ·refine gD ?_;refine gS ?_;refine gO Tryz.func193 ?_;refine caseB_true ?_;refine gO Tryz.func193 ?_;rw [Bool.not_eq_true'] at h6;rw [hnext,h6,Bool.false_and,Bool.false_and]
    ·rw [Bool.not_eq_false'] at h6;refine gD ?_;refine caseB_split (fun h7=>?_) (fun h7=>?_)
     ·have hk0:0<k:=by simpa using h7
      obtain ⟨e,he⟩:=some_of_lt (l:=s.data) (k:=k - 1) (by omega);have hw:IntKind.i64.wrap ((k:Int) - 1)=((k - 1:Nat):Int):=by rw [wrap64 (by omega) (by omega)]; omega
      have hpr:prevD s.data k=some e:=by simp [prevD,he]; omega
      refine gD ?_;rw [hw];refine elemP_intro e.enc (by omega) (elem_map he) rfl ?_;refine gD ?_
      with_reducible refine callP1_eq (cmpD_p _ _) ?_
      refine gD ?_;refine gS ?_;refine gO Tryz.func193 ?_;refine caseB_split (fun h8=>?_) (fun h8=>?_)
      ·refine gO Tryz.func193 ?_;have:decide (cmpD e d<0)=false:=by simp at h8 ⊢; omega
       rw [hnext,hpr]; dsimp only; rw [this,Bool.and_false,Bool.false_and]
      ·refine gO Tryz.func193 ?_;have:decide (cmpD e d<0)=true:=by simp at h8 ⊢; omega
       refine AWL.back (IH (k+1) ⟨by omega,by rw [hnext,hpr]; dsimp only; rw [this,h6]; rfl⟩ (by omega)) ?_;(conv=>whnf);repeat (first | exact trivial | (refine sI ?_; conv=>whnf))
     ·have hk0:k=0:=by simp at h7; omega
      have hpr:prevD s.data k=none:=by simp [prevD,hk0]
      refine gD ?_;refine gS ?_;refine gO Tryz.func193 ?_;refine caseB_false ?_;refine gO Tryz.func193 ?_;refine AWL.back (IH (k+1) ⟨by omega,by rw [hnext,hpr,h6]; rfl⟩ (by omega)) ?_;(conv=>whnf);repeat (first | exact trivial | (refine sI ?_; conv=>whnf))
   ·have hge:s.data.length≤k:=by simpa using h5
    refine gO Tryz.func193 ?_;rw [hk.2,List.drop_of_length_le hge];rfl
end Go.Proofs.YthikfaephakahaaGreatDoor.P
end
section
namespace Go.Proofs.YthikfaephakahaaGreatDoor.P
open Go Go.Eng
set_option maxRecDepth 100000
theorem valid_len {l:Text} (h:Nm.valid l=true):l.length≤60:=by
 simp only [Nm.valid,Bool.or_eq_true,decide_eq_true_eq,Bool.and_eq_true] at h;rcases h with rfl | h
 ·simp
 ·exact h.1
theorem textOK_len {r:Rule} {t:Text} (h:textOK r t=true):t.length≤60:=by
 unfold textOK at h;split at h
 ·simp at h; exact valid_len h.1
 ·split at h
  ·exact valid_len h
  ·split at h
   ·simp [freeB] at h; omega
   ·simp at h; simp [h]
theorem dataB_mem {r:Rule}:∀ {p:Option Datum} {l:List Datum},dataB r p l=true→∀ d∈l,datumOK r d=true
 |_,[],_,d,hd=>by simp at hd
 |p,e::l,h,d,hd=>by
  simp only [dataB,Bool.and_eq_true] at h;rcases List.mem_cons.1 hd with rfl | hd
  ·exact h.1.1
  ·exact dataB_mem h.2 d hd
theorem setOK_lens {s:RSet} (h:setOK s=true):s.name.length≤60∧s.data.length≤8∧1≤s.data.length∧∀ d∈s.data,d.text.length≤60:=by
 simp only [setOK,Bool.and_eq_true,decide_eq_true_eq] at h;obtain ⟨⟨⟨⟨⟨⟨h1,h2⟩,h3⟩,h4⟩,h5⟩,h6⟩,h7⟩:=h;refine ⟨valid_len h1,by omega,by omega,fun d hd=>?_⟩;have:=dataB_mem h7 d hd;simp only [datumOK,Bool.and_eq_true] at this;exact textOK_len this.2
theorem take_next {α:Type} {l:List α} {k:Nat} {x:α} (h:l[k]? = some x):l.take (k+1)=l.take k++[x]:=by
 rw [List.take_add_one,h]; rfl
end Go.Proofs.YthikfaephakahaaGreatDoor.P
end
section
namespace Go.Proofs.YthikfaephakahaaGreatDoor.P
open Go Go.Eng
set_option maxRecDepth 100000
theorem nunder_p (t z:Text) (ht:t.length≤maxLen) (hz:z.length≤maxLen):PCalls E 146 [.str t,.str z] (· = .tup [.bool (Nm.vunder t z),.int .i64 (if Nm.valid t&&Nm.valid z then 0 else 11)]) :=
 ofTexts (g:=fun t z => .tup [.bool (Nm.vunder t z),.int .i64 (if Nm.valid t&&Nm.valid z then 0 else 11)]) t z ⟨_,Tryz.func146,rfl,by decide⟩ fun w=>(nunder_any ⟨t.toArray⟩ ⟨z.toArray⟩ w (size_mk ht) (size_mk hz)).mono fun e w' ⟨h1,h2⟩=>⟨_,h1,fun _ _=>by
  simp only [toL_mk]
  exact .tup _ _ rfl (fun j x v hx hv=>by
   match j with
   | 0=>simp at hx hv; subst hx; subst hv; exact .bool _
   | 1=>simp at hx hv; subst hx; subst hv; exact .int _ _
   |j+2=>simp at hx),h2⟩
def keyOK (k:Key):Bool:=decide (k.n≥1)&&decide (k.n≤1000000)&&decide (k.alg≥1)&&decide (k.alg≤3)
def winOK (a b:Int):Bool:=decide (a≥0)&&decide (a≤b)&&decide (b≤20000000)
def signOK (s:RSet) (zone:Text) (k:Key) (frm upto:Int):Bool:=keyOK k&&winOK frm upto&&Nm.valid zone && !Nm.wild zone&&setOK s&&Nm.vunder s.name zone
def sig0:Sig:=⟨[],0,0,0,0,0⟩
def sigEq (a b:Sig):Bool:=(a.zone==b.zone&&(a.key==b.key&&(a.alg==b.alg&&(a.frm==b.frm&&(a.upto==b.upto&&(a.sum==b.sum&&true))))))
theorem sigEq_iff {a b:Sig}:sigEq a b=true↔a=b:=by
 obtain ⟨a1,a2,a3,a4,a5,a6⟩:=a;obtain ⟨b1,b2,b3,b4,b5,b6⟩:=b;simp [sigEq]
end Go.Proofs.YthikfaephakahaaGreatDoor.P
end

/- Lemmas of mine. Conditions: as stated. -/
import Derived.Test.YtcmnpelmmekdkaaGreatDoorW2
import Derived.Test.YtcmnpelmmekdkaaGreatDoorW3
set_option linter.unusedVariables false
set_option linter.unusedSimpArgs false
section
namespace Go.Proofs.YtcmnpelmmekdkaaGreatDoor
open Go Go.aA
def CB:DV := .agg [.int .i64 0,.int .i64 0,.int .i64 0,.int .i64 0,.int .i64 0,.bool false,.bool false,.bool false,.int .i64 0,.int .i64 1,.int .i64 1000000,.int .i64 0,.int .i64 0,.bool false,.bool false,.bool true,.int .i64 1,.int .i64 0,.int .i64 0,.int .i64 0,.int .i64 0,.bool false,.bool false,.bool false,.int .i64 1,.int .i64 0,.int .i64 0,.int .i64 0,.int .i64 0,.bool false,.bool true,.bool false,.int .i64 0,.int .i64 0,.int .i64 65535,.int .i64 0,.int .i64 100000,.bool false,.bool true,.bool false,.int .i64 3,.int .i64 0,.int .i64 0,.int .i64 0,.int .i64 0,.bool false,.bool false,.bool true,.int .i64 0,.int .i64 1,.int .i64 1000000,.int .i64 1,.int .i64 3,.bool false,.bool false,.bool false,.int .i64 0,.int .i64 1,.int .i64 1000000,.int .i64 1,.int .i64 3,.bool false,.bool false,.bool false,.int .i64 2,.int .i64 2,.int .i64 510,.int .i64 0,.int .i64 0,.bool true,.bool false,.bool true]
def types:List bD:=[
 ⟨.other,1,0,[]⟩,
 ⟨.func,1,8,[.aF]⟩,
 ⟨.int .i64,1,8,[.int .i64 0]⟩,
 ⟨.int .i64,1,8,[.int .i64 0]⟩,
 ⟨.bool,1,1,[.bool false]⟩,
 ⟨.int .u8,1,1,[.int .u8 0]⟩,
 ⟨.int .u8,1,1,[.int .u8 0]⟩,
 ⟨.struct [(0,2),(1,3),(2,4),(3,6)],4,24,[.int .i64 0,.int .i64 0,.bool false,.int .u8 0]⟩,
 ⟨.struct [(0,2),(1,3),(2,4),(3,6)],4,24,[.int .i64 0,.int .i64 0,.bool false,.int .u8 0]⟩,
 ⟨.string,1,16,[.str []]⟩,
 ⟨.string,1,16,[.str []]⟩,
 ⟨.string,1,16,[.str []]⟩,
 ⟨.int .u64,1,8,[.int .u64 0]⟩,
 ⟨.struct [(0,9),(1,12)],2,24,[.str [],.int .u64 0]⟩,
 ⟨.struct [(0,9),(1,12)],2,24,[.str [],.int .u64 0]⟩,
 ⟨.pointer 293,1,8,[.eB]⟩,
 ⟨.pointer 296,1,8,[.eB]⟩,
 ⟨.pointer 303,1,8,[.eB]⟩,
 ⟨.struct [(0,17)],1,8,[.eB]⟩,
 ⟨.struct [(0,17)],1,8,[.eB]⟩,
 ⟨.iface,1,16,[.mH]⟩,
 ⟨.int .i32,1,4,[.int .i32 0]⟩,
 ⟨.slice 69,1,24,[.a7]⟩,
 ⟨.slice 52,1,24,[.a7]⟩,
 ⟨.slice 59,1,24,[.a7]⟩,
 ⟨.struct [(0,9),(1,3),(2,3),(3,24)],4,56,[.str [],.int .i64 0,.int .i64 0,.a7]⟩,
 ⟨.struct [(0,9),(1,3),(2,3),(3,24)],4,56,[.str [],.int .i64 0,.int .i64 0,.a7]⟩,
 ⟨.slice 3,1,24,[.a7]⟩,
 ⟨.struct [(0,22),(1,23),(2,26),(6,27)],7,128,[.a7,.a7,.str [],.int .i64 0,.int .i64 0,.a7,.a7]⟩,
 ⟨.struct [(0,22),(1,23),(2,26),(6,27)],7,128,[.a7,.a7,.str [],.int .i64 0,.int .i64 0,.a7,.a7]⟩,
 ⟨.func,1,8,[.aF]⟩,
 ⟨.func,1,8,[.aF]⟩,
 ⟨.slice 9,1,24,[.a7]⟩,
 ⟨.int .i64,1,8,[.int .i64 0]⟩,
 ⟨.other,1,0,[]⟩,
 ⟨.func,1,8,[.aF]⟩,
 ⟨.other,1,0,[]⟩,
 ⟨.func,1,8,[.aF]⟩,
 ⟨.slice 54,1,24,[.a7]⟩,
 ⟨.other,1,0,[]⟩,
 ⟨.func,1,8,[.aF]⟩,
 ⟨.func,1,8,[.aF]⟩,
 ⟨.func,1,8,[.aF]⟩,
 ⟨.func,1,8,[.aF]⟩,
 ⟨.func,1,8,[.aF]⟩,
 ⟨.func,1,8,[.aF]⟩,
 ⟨.func,1,8,[.aF]⟩,
 ⟨.func,1,8,[.aF]⟩,
 ⟨.slice 57,1,24,[.a7]⟩,
 ⟨.struct [(0,9),(1,48)],2,40,[.str [],.a7]⟩,
 ⟨.struct [(0,9),(1,48)],2,40,[.str [],.a7]⟩,
 ⟨.struct [(0,3),(1,50)],3,48,[.int .i64 0,.str [],.a7]⟩,
 ⟨.struct [(0,3),(1,50)],3,48,[.int .i64 0,.str [],.a7]⟩,
 ⟨.struct [(0,9),(1,3)],2,24,[.str [],.int .i64 0]⟩,
 ⟨.struct [(0,9),(1,3)],2,24,[.str [],.int .i64 0]⟩,
 ⟨.slice 210,1,24,[.a7]⟩,
 ⟨.struct [(0,26),(4,55)],5,80,[.str [],.int .i64 0,.int .i64 0,.a7,.a7]⟩,
 ⟨.struct [(0,26),(4,55)],5,80,[.str [],.int .i64 0,.int .i64 0,.a7,.a7]⟩,
 ⟨.struct [(0,9),(1,3),(2,3)],3,32,[.str [],.int .i64 0,.int .i64 0]⟩,
 ⟨.struct [(0,9),(1,3),(2,3)],3,32,[.str [],.int .i64 0,.int .i64 0]⟩,
 ⟨.func,1,8,[.aF]⟩,
 ⟨.func,1,8,[.aF]⟩,
 ⟨.func,1,8,[.aF]⟩,
 ⟨.struct [(0,3),(1,48),(2,9)],3,48,[.int .i64 0,.a7,.str []]⟩,
 ⟨.struct [(0,3),(1,48),(2,9)],3,48,[.int .i64 0,.a7,.str []]⟩,
 ⟨.other,1,0,[]⟩,
 ⟨.func,1,8,[.aF]⟩,
 ⟨.map 3 4,1,8,[.iu]⟩,
 ⟨.struct [(0,9),(1,3),(2,3)],3,32,[.str [],.int .i64 0,.int .i64 0]⟩,
 ⟨.struct [(0,9),(1,3),(2,3)],3,32,[.str [],.int .i64 0,.int .i64 0]⟩,
 ⟨.func,1,8,[.aF]⟩,
 ⟨.func,1,8,[.aF]⟩,
 ⟨.slice 75,1,24,[.a7]⟩,
 ⟨.func,1,8,[.aF]⟩,
 ⟨.struct [(0,9),(1,38),(2,32)],3,64,[.str [],.a7,.a7]⟩,
 ⟨.struct [(0,9),(1,38),(2,32)],3,64,[.str [],.a7,.a7]⟩,
 ⟨.func,1,8,[.aF]⟩,
 ⟨.func,1,8,[.aF]⟩,
 ⟨.map 9 4,1,8,[.iu]⟩,
 ⟨.func,1,8,[.aF]⟩,
 ⟨.func,1,8,[.aF]⟩,
 ⟨.func,1,8,[.aF]⟩,
 ⟨.func,1,8,[.aF]⟩,
 ⟨.func,1,8,[.aF]⟩,
 ⟨.func,1,8,[.aF]⟩,
 ⟨.func,1,8,[.aF]⟩,
 ⟨.func,1,8,[.aF]⟩,
 ⟨.func,1,8,[.aF]⟩,
 ⟨.func,1,8,[.aF]⟩,
 ⟨.slice 96,1,24,[.a7]⟩,
 ⟨.func,1,8,[.aF]⟩,
 ⟨.map 9 50,1,8,[.iu]⟩,
 ⟨.map 9 50,1,8,[.iu]⟩,
 ⟨.func,1,8,[.aF]⟩,
 ⟨.func,1,8,[.aF]⟩,
 ⟨.struct [(0,9),(1,32),(2,3),(3,54)],5,72,[.str [],.a7,.int .i64 0,.str [],.int .i64 0]⟩,
 ⟨.struct [(0,9),(1,32),(2,3),(3,54)],5,72,[.str [],.a7,.int .i64 0,.str [],.int .i64 0]⟩,
 ⟨.func,1,8,[.aF]⟩,
 ⟨.func,1,8,[.aF]⟩,
 ⟨.func,1,8,[.aF]⟩,
 ⟨.func,1,8,[.aF]⟩,
 ⟨.other,1,0,[]⟩,
 ⟨.func,1,8,[.aF]⟩,
 ⟨.pointer 107,1,8,[.eB]⟩,
 ⟨.func,1,8,[.aF]⟩,
 ⟨.map 54 3,1,8,[.iu]⟩,
 ⟨.struct [(0,9),(1,48),(2,105),(3,54),(5,9),(6,4),(7,9)],8,112,[.str [],.a7,.iu,.str [],.int .i64 0,.str [],.bool false,.str []]⟩,
 ⟨.struct [(0,9),(1,48),(2,105),(3,54),(5,9),(6,4),(7,9)],8,112,[.str [],.a7,.iu,.str [],.int .i64 0,.str [],.bool false,.str []]⟩,
 ⟨.func,1,8,[.aF]⟩,
 ⟨.slice 108,1,24,[.a7]⟩,
 ⟨.other,1,0,[]⟩,
 ⟨.func,1,8,[.aF]⟩,
 ⟨.func,1,8,[.aF]⟩,
 ⟨.map 9 3,1,8,[.iu]⟩,
 ⟨.struct [(0,29),(7,113)],8,136,[.a7,.a7,.str [],.int .i64 0,.int .i64 0,.a7,.a7,.iu]⟩,
 ⟨.struct [(0,29),(7,113)],8,136,[.a7,.a7,.str [],.int .i64 0,.int .i64 0,.a7,.a7,.iu]⟩,
 ⟨.func,1,8,[.aF]⟩,
 ⟨.func,1,8,[.aF]⟩,
 ⟨.func,1,8,[.aF]⟩,
 ⟨.slice 123,1,24,[.a7]⟩,
 ⟨.other,1,0,[]⟩,
 ⟨.func,1,8,[.aF]⟩,
 ⟨.struct [(0,54),(2,9)],3,40,[.str [],.int .i64 0,.str []]⟩,
 ⟨.struct [(0,54),(2,9)],3,40,[.str [],.int .i64 0,.str []]⟩,
 ⟨.func,1,8,[.aF]⟩,
 ⟨.func,1,8,[.aF]⟩,
 ⟨.func,1,8,[.aF]⟩,
 ⟨.func,1,8,[.aF]⟩,
 ⟨.func,1,8,[.aF]⟩,
 ⟨.string,1,16,[.str []]⟩,
 ⟨.func,1,8,[.aF]⟩,
 ⟨.func,1,8,[.aF]⟩,
 ⟨.other,1,0,[]⟩,
 ⟨.func,1,8,[.aF]⟩,
 ⟨.func,1,8,[.aF]⟩,
 ⟨.func,1,8,[.aF]⟩,
 ⟨.func,1,8,[.aF]⟩,
 ⟨.struct [(0,89)],1,24,[.a7]⟩,
 ⟨.struct [(0,89)],1,24,[.a7]⟩,
 ⟨.func,1,8,[.aF]⟩,
 ⟨.other,1,0,[]⟩,
 ⟨.func,1,8,[.aF]⟩,
 ⟨.slice 189,1,24,[.a7]⟩,
 ⟨.struct [(0,32),(1,142)],2,48,[.a7,.a7]⟩,
 ⟨.struct [(0,32),(1,142)],2,48,[.a7,.a7]⟩,
 ⟨.func,1,8,[.aF]⟩,
 ⟨.func,1,8,[.aF]⟩,
 ⟨.func,1,8,[.aF]⟩,
 ⟨.func,1,8,[.aF]⟩,
 ⟨.map 9 152,1,8,[.iu]⟩,
 ⟨.func,1,8,[.aF]⟩,
 ⟨.struct [(0,3),(1,3)],2,16,[.int .i64 0,.int .i64 0]⟩,
 ⟨.struct [(0,3),(1,3)],2,16,[.int .i64 0,.int .i64 0]⟩,
 ⟨.other,1,0,[]⟩,
 ⟨.func,1,8,[.aF]⟩,
 ⟨.other,1,0,[]⟩,
 ⟨.func,1,8,[.aF]⟩,
 ⟨.struct [(0,50)],2,40,[.str [],.a7]⟩,
 ⟨.struct [(0,50)],2,40,[.str [],.a7]⟩,
 ⟨.other,1,0,[]⟩,
 ⟨.func,1,8,[.aF]⟩,
 ⟨.other,1,0,[]⟩,
 ⟨.func,1,8,[.aF]⟩,
 ⟨.func,1,8,[.aF]⟩,
 ⟨.func,1,8,[.aF]⟩,
 ⟨.func,1,8,[.aF]⟩,
 ⟨.func,1,8,[.aF]⟩,
 ⟨.func,1,8,[.aF]⟩,
 ⟨.func,1,8,[.aF]⟩,
 ⟨.func,1,8,[.aF]⟩,
 ⟨.func,1,8,[.aF]⟩,
 ⟨.func,1,8,[.aF]⟩,
 ⟨.func,1,8,[.aF]⟩,
 ⟨.map 175 4,1,8,[.iu]⟩,
 ⟨.struct [(0,3),(1,9)],2,24,[.int .i64 0,.str []]⟩,
 ⟨.struct [(0,3),(1,9)],2,24,[.int .i64 0,.str []]⟩,
 ⟨.func,1,8,[.aF]⟩,
 ⟨.func,1,8,[.aF]⟩,
 ⟨.func,1,8,[.aF]⟩,
 ⟨.func,1,8,[.aF]⟩,
 ⟨.func,1,8,[.aF]⟩,
 ⟨.int .u64,1,8,[.int .u64 0]⟩,
 ⟨.func,1,8,[.aF]⟩,
 ⟨.func,1,8,[.aF]⟩,
 ⟨.other,1,0,[]⟩,
 ⟨.func,1,8,[.aF]⟩,
 ⟨.func,1,8,[.aF]⟩,
 ⟨.pointer 138,1,8,[.eB]⟩,
 ⟨.struct [(0,54),(2,9)],3,40,[.str [],.int .i64 0,.str []]⟩,
 ⟨.struct [(0,54),(2,9)],3,40,[.str [],.int .i64 0,.str []]⟩,
 ⟨.func,1,8,[.aF]⟩,
 ⟨.other,1,0,[]⟩,
 ⟨.func,1,8,[.aF]⟩,
 ⟨.func,1,8,[.aF]⟩,
 ⟨.func,1,8,[.aF]⟩,
 ⟨.func,1,8,[.aF]⟩,
 ⟨.func,1,8,[.aF]⟩,
 ⟨.func,1,8,[.aF]⟩,
 ⟨.struct [(0,158),(2,32)],3,64,[.str [],.a7,.a7]⟩,
 ⟨.struct [(0,158),(2,32)],3,64,[.str [],.a7,.a7]⟩,
 ⟨.func,1,8,[.aF]⟩,
 ⟨.func,1,8,[.aF]⟩,
 ⟨.func,1,8,[.aF]⟩,
 ⟨.func,1,8,[.aF]⟩,
 ⟨.func,1,8,[.aF]⟩,
 ⟨.func,1,8,[.aF]⟩,
 ⟨.func,1,8,[.aF]⟩,
 ⟨.func,1,8,[.aF]⟩,
 ⟨.int .u64,1,8,[.int .u64 0]⟩,
 ⟨.struct [(0,9),(1,3),(2,3),(3,3),(4,3),(5,208)],6,56,[.str [],.int .i64 0,.int .i64 0,.int .i64 0,.int .i64 0,.int .u64 0]⟩,
 ⟨.struct [(0,9),(1,3),(2,3),(3,3),(4,3),(5,208)],6,56,[.str [],.int .i64 0,.int .i64 0,.int .i64 0,.int .i64 0,.int .u64 0]⟩,
 ⟨.func,1,8,[.aF]⟩,
 ⟨.func,1,8,[.aF]⟩,
 ⟨.func,1,8,[.aF]⟩,
 ⟨.func,1,8,[.aF]⟩,
 ⟨.func,1,8,[.aF]⟩,
 ⟨.func,1,8,[.aF]⟩,
 ⟨.func,1,8,[.aF]⟩,
 ⟨.func,1,8,[.aF]⟩,
 ⟨.func,1,8,[.aF]⟩,
 ⟨.func,1,8,[.aF]⟩,
 ⟨.func,1,8,[.aF]⟩,
 ⟨.func,1,8,[.aF]⟩,
 ⟨.func,1,8,[.aF]⟩,
 ⟨.struct [(0,3),(1,3),(2,3),(3,3),(4,3),(5,4),(6,4),(7,4)],8,48,[.int .i64 0,.int .i64 0,.int .i64 0,.int .i64 0,.int .i64 0,.bool false,.bool false,.bool false]⟩,
 ⟨.struct [(0,3),(1,3),(2,3),(3,3),(4,3),(5,4),(6,4),(7,4)],8,48,[.int .i64 0,.int .i64 0,.int .i64 0,.int .i64 0,.int .i64 0,.bool false,.bool false,.bool false]⟩,
 ⟨.array 9 225,72,432,[.int .i64 0,.int .i64 0,.int .i64 0,.int .i64 0,.int .i64 0,.bool false,.bool false,.bool false,.int .i64 0,.int .i64 0,.int .i64 0,.int .i64 0,.int .i64 0,.bool false,.bool false,.bool false,.int .i64 0,.int .i64 0,.int .i64 0,.int .i64 0,.int .i64 0,.bool false,.bool false,.bool false,.int .i64 0,.int .i64 0,.int .i64 0,.int .i64 0,.int .i64 0,.bool false,.bool false,.bool false,.int .i64 0,.int .i64 0,.int .i64 0,.int .i64 0,.int .i64 0,.bool false,.bool false,.bool false,.int .i64 0,.int .i64 0,.int .i64 0,.int .i64 0,.int .i64 0,.bool false,.bool false,.bool false,.int .i64 0,.int .i64 0,.int .i64 0,.int .i64 0,.int .i64 0,.bool false,.bool false,.bool false,.int .i64 0,.int .i64 0,.int .i64 0,.int .i64 0,.int .i64 0,.bool false,.bool false,.bool false,.int .i64 0,.int .i64 0,.int .i64 0,.int .i64 0,.int .i64 0,.bool false,.bool false,.bool false]⟩,
 ⟨.func,1,8,[.aF]⟩,
 ⟨.func,1,8,[.aF]⟩,
 ⟨.func,1,8,[.aF]⟩,
 ⟨.func,1,8,[.aF]⟩,
 ⟨.int .i64,1,8,[.int .i64 0]⟩,
 ⟨.other,1,0,[]⟩,
 ⟨.func,1,8,[.aF]⟩,
 ⟨.func,1,8,[.aF]⟩,
 ⟨.func,1,8,[.aF]⟩,
 ⟨.func,1,8,[.aF]⟩,
 ⟨.func,1,8,[.aF]⟩,
 ⟨.int .u32,1,4,[.int .u32 0]⟩,
 ⟨.func,1,8,[.aF]⟩,
 ⟨.func,1,8,[.aF]⟩,
 ⟨.func,1,8,[.aF]⟩,
 ⟨.func,1,8,[.aF]⟩,
 ⟨.func,1,8,[.aF]⟩,
 ⟨.func,1,8,[.aF]⟩,
 ⟨.slice 4,1,24,[.a7]⟩,
 ⟨.func,1,8,[.aF]⟩,
 ⟨.func,1,8,[.aF]⟩,
 ⟨.func,1,8,[.aF]⟩,
 ⟨.func,1,8,[.aF]⟩,
 ⟨.func,1,8,[.aF]⟩,
 ⟨.func,1,8,[.aF]⟩,
 ⟨.func,1,8,[.aF]⟩,
 ⟨.func,1,8,[.aF]⟩,
 ⟨.func,1,8,[.aF]⟩,
 ⟨.func,1,8,[.aF]⟩,
 ⟨.func,1,8,[.aF]⟩,
 ⟨.func,1,8,[.aF]⟩,
 ⟨.int .u64,1,8,[.int .u64 0]⟩,
 ⟨.func,1,8,[.aF]⟩,
 ⟨.func,1,8,[.aF]⟩,
 ⟨.func,1,8,[.aF]⟩,
 ⟨.pointer 3,1,8,[.eB]⟩,
 ⟨.func,1,8,[.aF]⟩,
 ⟨.func,1,8,[.aF]⟩,
 ⟨.func,1,8,[.aF]⟩,
 ⟨.func,1,8,[.aF]⟩,
 ⟨.func,1,8,[.aF]⟩,
 ⟨.func,1,8,[.aF]⟩,
 ⟨.func,1,8,[.aF]⟩,
 ⟨.func,1,8,[.aF]⟩,
 ⟨.pointer 274,1,8,[.eB]⟩,
 ⟨.slice 5,1,24,[.a7]⟩,
 ⟨.struct [(0,271),(1,272)],2,32,[.eB,.a7]⟩,
 ⟨.struct [(0,271),(1,272)],2,32,[.eB,.a7]⟩,
 ⟨.func,1,8,[.aF]⟩,
 ⟨.iface,1,16,[.mH]⟩,
 ⟨.iface,1,16,[.mH]⟩,
 ⟨.other,1,0,[]⟩,
 ⟨.func,1,8,[.aF]⟩,
 ⟨.func,1,8,[.aF]⟩,
 ⟨.pointer 258,1,8,[.eB]⟩,
 ⟨.other,1,0,[]⟩,
 ⟨.func,1,8,[.aF]⟩,
 ⟨.func,1,8,[.aF]⟩,
 ⟨.func,1,8,[.aF]⟩,
 ⟨.func,1,8,[.aF]⟩,
 ⟨.pointer 5,1,8,[.eB]⟩,
 ⟨.func,1,8,[.aF]⟩,
 ⟨.other,1,8,[.eB]⟩,
 ⟨.func,1,8,[.aF]⟩,
 ⟨.func,1,8,[.aF]⟩,
 ⟨.struct [(0,17),(1,17),(2,17),(3,9)],4,40,[.eB,.eB,.eB,.str []]⟩,
 ⟨.struct [(0,17),(1,17),(2,17),(3,9)],4,40,[.eB,.eB,.eB,.str []]⟩,
 ⟨.array 0 16,0,0,[]⟩,
 ⟨.struct [(0,294)],0,0,[]⟩,
 ⟨.struct [(0,294)],0,0,[]⟩,
 ⟨.int .u8,1,1,[.int .u8 0]⟩,
 ⟨.int .u8,1,1,[.int .u8 0]⟩,
 ⟨.func,1,8,[.aF]⟩,
 ⟨.int .i32,1,4,[.int .i32 0]⟩,
 ⟨.int .i32,1,4,[.int .i32 0]⟩,
 ⟨.struct [(0,12),(1,12),(2,238),(3,297),(4,5),(5,5),(6,298),(7,299),(8,287),(9,300),(10,301)],11,48,[.int .u64 0,.int .u64 0,.int .u32 0,.int .u8 0,.int .u8 0,.int .u8 0,.int .u8 0,.aF,.eB,.int .i32 0,.int .i32 0]⟩,
 ⟨.struct [(0,12),(1,12),(2,238),(3,297),(4,5),(5,5),(6,298),(7,299),(8,287),(9,300),(10,301)],11,48,[.int .u64 0,.int .u64 0,.int .u32 0,.int .u8 0,.int .u8 0,.int .u8 0,.int .u8 0,.aF,.eB,.int .i32 0,.int .i32 0]⟩]
def CC:List (Nat × DV):=[(0,CB)]
noncomputable def E:Env:=⟨Tryz.prog,types,CC,[54,59,69,152,175,210,225]⟩
theorem bN:E.P.follows .mixedOrders=true:=by kernel_rfl
theorem Vc:(List.range 304).map (eI Tryz.prog)=types.map some:=by kernel_rfl
theorem Vd:E.Q.all (px E.P)=true:=by kernel_rfl
theorem ag:E.OK:=⟨fun t i hi=>by
 have h:=congrArg (·[t]?) Vc;simp only[List.getElem?_map]at h;have cS:types[t]?=some i:=hi;rw[cS]at h;cases hr:(List.range 304)[t]? with
 |none=>rw[hr]at h;cases h
 |some u =>
  have hu:u=t:=by
   have ai:t<304:=by
    rcases Nat.lt_or_ge t 304 with h|h
    ·exact h
    ·rw[List.getElem?_eq_none (by simpa using h)]at hr;cases hr
   simp[ai]at hr;exact hr.symm
  subst hu;rw[hr]at h;have h2:eI Tryz.prog u=some i:=by simpa using h
  exact h2,fun t ht=>List.all_eq_true.1 Vd t ht⟩
end Go.Proofs.YtcmnpelmmekdkaaGreatDoor
end
section
namespace Go.Proofs.YtcmnpelmmekdkaaGreatDoor.P
open Go Go.aA
abbrev Text:=List UInt8
structure Datum where
 text:Text
 n:Int
 m:Int
 deriving DecidableEq
structure eD where
 name:Text
 type:Int
 kc:Int
 data:List Datum
 deriving DecidableEq
structure Key where
 n:Int
 pU:Int
 deriving DecidableEq
structure iS where
 aE:Text
 key:Int
 pU:Int
 ru:Int
 upto:Int
 sum:Int
 deriving DecidableEq
structure Signed where
 set:eD
 sigs:List iS
 deriving DecidableEq
structure aP where
 ad:Text
 ab:List Signed
 deriving DecidableEq
@[reducible] def Datum.enc (d : Datum) : DV := .agg [.str d.text, .int .i64 d.n, .int .i64 d.m]
@[reducible] def Mv (l : List Datum) : DV := .sl (l.map Datum.enc)
@[reducible] def eD.enc (s : eD) : DV := .agg [.str s.name, .int .i64 s.type, .int .i64 s.kc, Mv s.data]
@[reducible] def Key.enc (k : Key) : DV := .agg [.int .i64 k.n, .int .i64 k.pU]
@[reducible] def iS.enc (g : iS) : DV := .agg [.str g.aE, .int .i64 g.key, .int .i64 g.pU, .int .i64 g.ru, .int .i64 g.upto, .int .u64 g.sum]
@[reducible] def GF (l : List iS) : DV := .sl (l.map iS.enc)
@[reducible] def Signed.enc (x : Signed) : DV := .agg [.str x.set.name, .int .i64 x.set.type, .int .i64 x.set.kc, Mv x.set.data, GF x.sigs]
@[reducible] def vu (l : List Signed) : DV := .sl (l.map Signed.enc)
@[reducible] def aP.enc (z : aP) : DV := .agg [.str z.ad, vu z.ab]
def jx(n:Int):Prop := -9223372036854775808<=n/\n<=9223372036854775807
theorem wrap64{n:Int}(h1 : -9223372036854775808<=n)(h2:n<=9223372036854775807):IntKind.i64.wrap n=n:=by
 rw[IntWalk.i64_in n ⟨h1,h2⟩]
theorem gO{ae:FuncId}{fn:Func}(hf:E.P.funcs[ae]?=some fn){R:bZ}{lits:List Nat}{td:List aK}{s:List AV}{h:List af}{P Q:Prop}(H:Q)(e0:P=aa E ae R lits td s h:=by(conv=>lhs;whnf))(e1:runK E ae fn.results.toList R 2000 lits td s h=Q:=by(conv=>lhs;whnf)):P:=by
 rw[e0];exact aa.run ag hf 2000 (e1 ▸ H)
theorem gD{ae:FuncId}{R:bZ}{ops:Array Oper}{k:List aK}{lits:List Nat}{pre ba:List Oper}{s:List AV}{h:List af}{P Q:Prop}(H:Q)(e0:P=cg E ae R ops k lits pre ba s h:=by(conv=>lhs;whnf))(e1:me E ae R ops k 2000 lits pre ba s h=Q:=by(conv=>lhs;whnf)):P:=by
 rw[e0];exact cg.run ag 2000 (e1 ▸ H)
theorem gS{ae:FuncId}{R:bZ}{ops:Array Oper}{k:List aK}{lits:List Nat}{ba:List Oper}{s:List AV}{h:List af}{P Q:Prop}(H:Q)(e0:P=cJ E ae R ops k lits ba s h:=by(conv=>lhs;whnf))(e1:oR E ae R ops k 2000 lits ba s h=Q:=by(conv=>lhs;whnf)):P:=by
 rw[e0];exact cJ.run ag 2000 (e1 ▸ H)
theorem gA{ae:FuncId}{fn:Func}(hf:E.P.funcs[ae]?=some fn){R:bZ}{lits:List Nat}{td:List aK}{s:List AV}{h:List af}{P Q:Prop}(H:Q)(e0:P=aa E ae R lits td s h:=by(conv=>lhs;whnf))(e1:runK E ae fn.results.toList R 2000 lits td s h=Q:=by(conv=>lhs;whnf))(_:Q->Q:=by(intro h;(fail_if_success (with_reducible refine aa.of ?_));exact h)):P:=gO hf H e0 e1
theorem gB{ae:FuncId}{R:bZ}{ops:Array Oper}{k:List aK}{lits:List Nat}{pre ba:List Oper}{s:List AV}{h:List af}{P Q:Prop}(H:Q)(e0:P=cg E ae R ops k lits pre ba s h:=by(conv=>lhs;whnf))(e1:me E ae R ops k 2000 lits pre ba s h=Q:=by(conv=>lhs;whnf))(_:Q->Q:=by(intro h;(fail_if_success (with_reducible refine cg.is ?_));exact h)):P:=gD H e0 e1
theorem gC{ae:FuncId}{R:bZ}{ops:Array Oper}{k:List aK}{lits:List Nat}{ba:List Oper}{s:List AV}{h:List af}{P Q:Prop}(H:Q)(e0:P=cJ E ae R ops k lits ba s h:=by(conv=>lhs;whnf))(e1:oR E ae R ops k 2000 lits ba s h=Q:=by(conv=>lhs;whnf))(_:Q->Q:=by(intro h;(fail_if_success (with_reducible refine cJ.is ?_));exact h)):P:=gS H e0 e1
theorem eP {f : FuncId} {fn : Func} (hf : E.P.funcs[f]? = some fn) {args : List DV} {R : DV -> Prop} {Q : Prop} (H : Q) (hb : fn.body = some (fn.body.getD .skip) := by rfl) (hn : (fn.name == "runtime.NumGoroutine") = false := by decide) (e : (ov .d args fun a => runK E f fn.results.toList ⟨0, yR R, [], ⟨f, none, [], [], [], []⟩⟩ 2000 [] [.code (fn.body.getD .skip)] (nE a fn.ntmps) []) = Q := by (conv => lhs; whnf)) : au E f args R := au.run ag hf hb hn 2000 (e ▸ H)
def rg(a:Nat):Nat->List Nat
 |0=>[]
 |n+1=>a::rg (a+1) n
theorem sI{P Q:Prop}(q:Q)(p:P:=by first|with_reducible rfl|exact congrArg (DV.int .i64) (by omega)|exact congrArg (DV.int .i64) (wrap64 (by omega) (by omega))|exact congrArg (DV.int .i64) ((wrap64 (by omega) (by omega)).trans (by omega))):P/\Q:=⟨p,q⟩
theorem sZ{P:Prop}(h:P:=by((conv=>whnf);repeat (first|exact trivial|(refine sI ?_;conv=>whnf)))):P:=h
section
open Go.Proofs.Tryz
theorem F3:E.P.funcs[3]?=some f3:=func3
theorem F9:E.P.funcs[9]?=some f9:=func9
theorem F10:E.P.funcs[10]?=some f10:=func10
theorem F11:E.P.funcs[11]?=some f11:=func11
theorem F12:E.P.funcs[12]?=some f12:=func12
theorem F13:E.P.funcs[13]?=some f13:=func13
theorem F14:E.P.funcs[14]?=some f14:=func14
theorem F15:E.P.funcs[15]?=some f15:=func15
theorem F16:E.P.funcs[16]?=some f16:=func16
theorem F17:E.P.funcs[17]?=some f17:=func17
theorem F18:E.P.funcs[18]?=some f18:=func18
theorem F20:E.P.funcs[20]?=some f20:=func20
theorem F21:E.P.funcs[21]?=some f21:=func21
theorem F23:E.P.funcs[23]?=some f23:=func23
theorem F25:E.P.funcs[25]?=some f25:=func25
theorem F28:E.P.funcs[28]?=some f28:=func28
theorem F29:E.P.funcs[29]?=some f29:=func29
theorem F30:E.P.funcs[30]?=some f30:=func30
theorem F33:E.P.funcs[33]?=some f33:=func33
theorem F37:E.P.funcs[37]?=some f37:=func37
theorem F38:E.P.funcs[38]?=some f38:=func38
theorem F41:E.P.funcs[41]?=some f41:=func41
theorem F42:E.P.funcs[42]?=some f42:=func42
theorem F43:E.P.funcs[43]?=some f43:=func43
theorem F49:E.P.funcs[49]?=some f49:=func49
theorem F51:E.P.funcs[51]?=some f51:=func51
theorem F53:E.P.funcs[53]?=some f53:=func53
theorem F59:E.P.funcs[59]?=some f59:=func59
theorem F65:E.P.funcs[65]?=some f65:=func65
theorem F69:E.P.funcs[69]?=some f69:=func69
theorem F70:E.P.funcs[70]?=some f70:=func70
theorem F75:E.P.funcs[75]?=some f75:=func75
theorem F77:E.P.funcs[77]?=some f77:=func77
theorem F78:E.P.funcs[78]?=some f78:=func78
theorem F80:E.P.funcs[80]?=some f80:=func80
theorem F83:E.P.funcs[83]?=some f83:=func83
theorem F85:E.P.funcs[85]?=some f85:=func85
theorem F86:E.P.funcs[86]?=some f86:=func86
theorem F89:E.P.funcs[89]?=some f89:=func89
theorem F92:E.P.funcs[92]?=some f92:=func92
theorem F96:E.P.funcs[96]?=some f96:=func96
theorem F99:E.P.funcs[99]?=some f99:=func99
theorem F100:E.P.funcs[100]?=some f100:=func100
theorem F104:E.P.funcs[104]?=some f104:=func104
theorem F105:E.P.funcs[105]?=some f105:=func105
theorem F106:E.P.funcs[106]?=some f106:=func106
theorem F113:E.P.funcs[113]?=some f113:=func113
theorem F119:E.P.funcs[119]?=some f119:=func119
theorem F120:E.P.funcs[120]?=some f120:=func120
theorem F121:E.P.funcs[121]?=some f121:=func121
theorem F122:E.P.funcs[122]?=some f122:=func122
theorem F123:E.P.funcs[123]?=some f123:=func123
theorem F124:E.P.funcs[124]?=some f124:=func124
theorem F125:E.P.funcs[125]?=some f125:=func125
theorem F127:E.P.funcs[127]?=some f127:=func127
theorem F128:E.P.funcs[128]?=some f128:=func128
theorem F133:E.P.funcs[133]?=some f133:=func133
theorem F134:E.P.funcs[134]?=some f134:=func134
theorem F135:E.P.funcs[135]?=some f135:=func135
theorem F136:E.P.funcs[136]?=some f136:=func136
theorem F137:E.P.funcs[137]?=some f137:=func137
theorem F143:E.P.funcs[143]?=some f143:=func143
theorem F147:E.P.funcs[147]?=some f147:=func147
theorem F148:E.P.funcs[148]?=some f148:=func148
theorem F149:E.P.funcs[149]?=some f149:=func149
theorem F154:E.P.funcs[154]?=some f154:=func154
theorem F158:E.P.funcs[158]?=some f158:=func158
theorem F159:E.P.funcs[159]?=some f159:=func159
theorem F160:E.P.funcs[160]?=some f160:=func160
theorem F161:E.P.funcs[161]?=some f161:=func161
theorem F162:E.P.funcs[162]?=some f162:=func162
theorem F164:E.P.funcs[164]?=some f164:=func164
theorem F165:E.P.funcs[165]?=some f165:=func165
theorem F170:E.P.funcs[170]?=some f170:=func170
theorem F187:E.P.funcs[187]?=some f187:=func187
theorem F191:E.P.funcs[191]?=some f191:=func191
theorem F192:E.P.funcs[192]?=some f192:=func192
theorem F193:E.P.funcs[193]?=some f193:=func193
theorem F207:E.P.funcs[207]?=some f207:=func207
theorem F210:E.P.funcs[210]?=some f210:=func210
theorem F211:E.P.funcs[211]?=some f211:=func211
theorem F215:E.P.funcs[215]?=some f215:=func215
theorem F216:E.P.funcs[216]?=some f216:=func216
theorem F226:E.P.funcs[226]?=some f226:=func226
theorem F228:E.P.funcs[228]?=some f228:=func228
end
theorem cY{b:Bool}{A B:Prop}(h:A)(hb:b=true:=by first|decide|assumption):lv b A B:=aI hb h
theorem cN{b:Bool}{A B:Prop}(h:B)(hb:b=false:=by first|decide|assumption):lv b A B:=aO hb h
end Go.Proofs.YtcmnpelmmekdkaaGreatDoor.P
end
section
namespace Go.Proofs.YtcmnpelmmekdkaaGreatDoor.P
open Go Go.aA
set_option maxRecDepth 100000
theorem zT{f:FuncId}{g:List UInt8->DV}(t:List UInt8)(hb:qM E.P f)(h:∀ (w:World),Calls Tryz.prog f #[.string ⟨t.toArray⟩] w fun e w'=>∃ v,e=.returned v/\(∀ bad w,VD bad w (g t) v)/\Ext w w'):au E f [.str t] (· = g t):=by
 unfold au;refine⟨hb,fun ak w vs _ _ hv=>?_⟩;obtain⟨hl,hv⟩:=hv;obtain⟨v,rfl⟩:∃ v,vs=[v]:=by
  cases vs with
  |nil=>simp at hl
  |cons v r=>cases r with
   |nil=>exact⟨v,rfl⟩
   |cons u r=>simp at hl
 have:=hv 0 (.str t) v rfl rfl;cases this;exact(h w).mono fun e w' ⟨v,h1,h2,h3⟩=>⟨v,_,h1,rfl,h2 _ _,h3⟩
theorem GG{f:FuncId}{g:List UInt8->List UInt8->DV}(t u:List UInt8)(hb:qM E.P f)(h:∀ (w:World),Calls Tryz.prog f #[.string ⟨t.toArray⟩,.string ⟨u.toArray⟩] w fun e w'=>∃ v,e=.returned v/\(∀ bad w,VD bad w (g t u) v)/\Ext w w'):au E f [.str t,.str u] (· = g t u):=by
 unfold au;refine⟨hb,fun ak w vs _ _ hv=>?_⟩;obtain⟨hl,hv⟩:=hv;obtain⟨v1,v2,rfl⟩:∃ v1 v2,vs=[v1,v2]:=by
  match vs,hl with
  |[v1,v2],_=>exact⟨v1,v2,rfl⟩
 have h1:=hv 0 (.str t) v1 rfl rfl;have h2:=hv 1 (.str u) v2 rfl rfl;cases h1;cases h2;exact(h w).mono fun e w' ⟨v,h1,h2,h3⟩=>⟨v,_,h1,rfl,h2 _ _,h3⟩
theorem kf(t:List UInt8):aw ⟨t.toArray⟩=t:=by simp[aw]
theorem size_mk{t:List UInt8}(h:t.length<=maxLen):(ByteArray.mk t.toArray).size<=maxLen:=by simpa [ByteArray.size]using h
theorem nd(t:List UInt8)(ht:t.length<=maxLen):au E 32 [.str t] (· = .bool (Nm.valid t)) :=
 zT (g:=fun t => .bool (Nm.valid t)) t ⟨_,Tryz.func32,rfl,by decide⟩ fun w=>(U6 ⟨t.toArray⟩ w (size_mk ht)).mono fun e w' ⟨h1,h2⟩=>⟨_,h1,fun _ _=>by rw[kf];exact .bool _,h2⟩
theorem fF(t:List UInt8)(ht:t.length<=maxLen):au E 24 [.str t] (· = .bool (Nm.valid t)) :=
 zT (g:=fun t => .bool (Nm.valid t)) t ⟨_,Tryz.func24,rfl,by decide⟩ fun w=>(UB ⟨t.toArray⟩ w (size_mk ht)).mono fun e w' ⟨h1,h2⟩=>⟨_,h1,fun _ _=>by rw[kf];exact .bool _,h2⟩
theorem jA(t:List UInt8)(ht:t.length<=maxLen):au E 186 [.str t] (· = .bool (Nm.il t)) :=
 zT (g:=fun t => .bool (Nm.il t)) t ⟨_,Tryz.func186,rfl,by decide⟩ fun w=>(UC ⟨t.toArray⟩ w (size_mk ht)).mono fun e w' ⟨h1,h2⟩=>⟨_,h1,fun _ _=>by rw[kf];exact .bool _,by subst h2;exact Ext.refl _⟩
theorem zU(x a b:Int):au E 166 [.int .i64 x,.int .i64 a,.int .i64 b] (· = .bool (decide (a<=x)&&decide (x<=b))):=by
 refine eP Tryz.func166 ?_;refine ar (fun h=>?_) (fun h=>?_)
 ·refine gO Tryz.func166 ?_;rw[h];rfl
 ·refine gO Tryz.func166 ?_;rw[h];rfl
theorem Mw(x a b:Int):au E 245 [.int .u8 x,.int .u8 a,.int .u8 b] (· = .bool (decide (a<=x)&&decide (x<=b))):=by
 refine eP Tryz.func245 ?_;refine ar (fun h=>?_) (fun h=>?_)
 ·refine gO Tryz.func245 ?_;rw[h];rfl
 ·refine gO Tryz.func245 ?_;rw[h];rfl
theorem Mx(x:Int):au E 204 [.int .i64 x] (· = .bool false):=by
 refine eP Tryz.func204 ?_;simp
theorem My(x:List UInt8):au E 246 [.str x] (· = .bool false):=by
 refine eP Tryz.func246 ?_;simp
def gF(a b:Int):Int:=if a<b then -1 else if b<a then 1 else 0
theorem zV(a b:Int):au E 132 [.int .i64 a,.int .i64 b] (· = .int .i64 (gF a b)):=by
 refine eP Tryz.func132 ?_;repeat' (first|with_reducible refine aj (Mx _) ?_|with_reducible refine bj (Mx _) ?_|with_reducible refine cY ?_|with_reducible refine cN ?_|with_reducible refine ar (fun _=>?_) (fun _=>?_)|refine gA Tryz.func132 ?_|refine gB ?_|refine gC ?_|with_reducible rfl)
 all_goals (simp_all[gF])
 all_goals omega
def xl(a b:List UInt8):Int:=if Op.bytesLess a b then -1 else if a=b then 0 else 1
theorem Ve(a b:List UInt8):au E 218 [.str a,.str b] (· = .int .i64 (xl a b)):=by
 refine eP Tryz.func218 ?_;repeat' (first|with_reducible refine aj (My _) ?_|with_reducible refine bj (My _) ?_|with_reducible refine cY ?_|with_reducible refine cN ?_|with_reducible refine ar (fun _=>?_) (fun _=>?_)|refine gA Tryz.func218 ?_|refine gB ?_|refine gC ?_|with_reducible rfl)
 all_goals (simp_all[xl])
theorem rz{α:Type}{f:α->DV}{l:List α}{k:Nat}{x:α}(hx:l[k]?=some x):(l.map f)[((k:Nat):Int).toNat]?=some (f x):=by
 simp[hx]
theorem bd{α:Type}{l:List α}{k:Nat}(h:k<l.length):∃ x,l[k]?=some x:=⟨l[k],by simp[h]⟩
def oW:List Int->Int
 |[]=>0
 |x::l=>if x=0 then oW l else x
theorem GH{l:List Int}:∀ {k:Nat},(∀ j,j<k->l[j]?=some 0)->oW l=oW (l.drop k)
 |0,_=>rfl
 |k+1,h=>by
  cases l with
  |nil=>rfl
  |cons x l =>
   have h0:=h 0 (by omega);simp at h0;subst h0;simp only[oW,if_true,List.drop_succ_cons];exact GH fun j hj=>by have:=h (j+1) (by omega);simpa using this
theorem Mz(l:List Int)(hl:l.length<=2147483648):au E 131 [.sl (l.map (.int .i64))] (· = .int .i64 (oW l)):=by
 refine eP Tryz.func131 ?_;refine aa.loop (κ:=Nat) ([2,5]++rg 8 9) (fun k=>[(8,.d (.int .i64 k)),(2,.d (.int .i64 0))]) (fun _=>[]) (fun k=>k<=l.length/\∀ j,j<k->l[j]?=some 0) (fun k=>l.length-k) 0 ⟨Nat.zero_le _,fun j h=>by omega⟩ ?_ ?_
 ·exact sZ
 ·intro k hk IH;refine aa.head ag Tryz.func131 2000 ?_;(conv=>whnf);refine ar (fun h1=>?_) (fun h1=>?_)
  ·simp at h1;obtain⟨x,hx⟩:=bd h1;refine gO Tryz.func131 ?_;refine fu (.int .i64 x) (by omega) (rz hx) rfl ?_;refine gO Tryz.func131 ?_;refine ar (fun h2=>?_) (fun h2=>?_)
   ·refine gO Tryz.func131 ?_;have aH:x≠0:=by simpa using h2
    rw[GH hk.2,List.drop_eq_getElem_cons h1];have:l[k]=x:=by simpa [h1]using hx
    simp only[oW,this,if_neg aH]
   ·refine gO Tryz.func131 ?_;have h0:x=0:=by simpa using h2
    subst h0;refine aa.back (IH (k+1) ⟨by omega,fun j hj=>?_⟩ (by omega)) ?_
    ·rcases Nat.lt_or_ge j k with h|h
     ·exact hk.2 j h
     ·obtain rfl:j=k:=by omega
      exact hx
    ·exact sZ
  ·simp at h1;refine gO Tryz.func131 ?_;rw[GH hk.2,List.drop_of_length_le h1];rfl
def rA(a b:Datum):Int:=oW [xl a.text b.text,gF a.n b.n,gF a.m b.m]
theorem Vf(a b:Datum):au E 169 [a.enc,b.enc] (· = .int .i64 (rA a b)):=by
 refine eP Tryz.func169 ?_;refine aa.draw ag bN 18 2000 (by kernel_rfl) ?_;conv=>whnf
 with_reducible refine bj (Ve _ _) ?_
 refine gD ?_
 with_reducible refine bj (zV _ _) ?_
 refine gD ?_
 with_reducible refine bj (zV _ _) ?_
 refine gD ?_;refine bj (Mz [xl a.text b.text,gF a.n b.n,gF a.m b.m] (by simp)) ?_;refine gD ?_;refine gS ?_;refine gO Tryz.func169 ?_;rfl
def preB(a b:List UInt8):Bool:=b.isPrefixOf a
theorem Vg{a b:List UInt8}:(a.take b.length==b)=preB a b:=by
 unfold preB;rw[Bool.eq_iff_iff,beq_iff_eq,List.isPrefixOf_iff_prefix];constructor
 ·intro e;rw[<- e];exact List.take_prefix _ _
 ·intro e;exact(List.prefix_iff_eq_take.1 e).symm
theorem Vh{a b:List UInt8}(h:a.length<b.length):preB a b=false:=by
 unfold preB;rw[Bool.eq_false_iff];intro e;have:=(List.isPrefixOf_iff_prefix.1 e).length_le;omega
theorem Vi(a b:List UInt8):au E 240 [.str a,.str b] (· = .bool (preB a b)):=by
 refine eP Tryz.func240 ?_;refine ar (fun h=>?_) (fun h=>?_)
 ·simp at h;refine gO Tryz.func240 ?_;refine bA ⟨by simp,by simp,by simp;omega⟩ ?_;refine gO Tryz.func240 ?_;simp;exact Vg
 ·simp at h;refine gO Tryz.func240 ?_;rw[Vh h]
theorem MA(a b:List UInt8):au E 205 [.str a,.str b] (· = .bool (preB a b)):=by
 refine eP Tryz.func205 ?_
 with_reducible refine aj (Vi _ _) ?_
 refine gO Tryz.func205 ?_
 with_reducible rfl
theorem MB(a:List UInt8):preB a [42]=Nm.il a:=by
 cases a with
 |nil=>rfl
 |cons c a =>
  show((42:UInt8)==c&&List.isPrefixOf [] a)=(c==42);simp only[List.isPrefixOf,Bool.and_true];exact BEq.comm
theorem CD(a:List UInt8):au E 167 [.str a] (· = .bool (Nm.il a)):=by
 refine eP Tryz.func167 ?_
 with_reducible refine aj (MA _ _) ?_
 refine gO Tryz.func167 ?_;exact congrArg _ (MB a)
def oX(c:UInt8):Bool:=(decide (97<=(c.toNat:Int))&&decide ((c.toNat:Int)<=122))||(decide (48<=(c.toNat:Int))&&decide ((c.toNat:Int)<=57))||((c.toNat:Int)==32)
def eO(t:List UInt8):Bool:=decide (1<=(t.length:Int))&&decide ((t.length:Int)<=40) && !(t.head?.any fun c=>(c.toNat:Int)==32) && !(t.getLast?.any fun c=>(c.toNat:Int)==32)&&t.all oX
theorem MC{t:List UInt8}(h1:1<=t.length)(h2:t.length<=40){c0 c1:UInt8}(h3:t[0]?=some c0)(h4:t[t.length-1]?=some c1)(h5:((c0.toNat:Int)==32)=false)(h6:((c1.toNat:Int)==32)=false):eO t=t.all oX:=by
 have e1:t.head?=some c0:=by rw[<- h3];exact List.head?_eq_getElem?
 have e2:t.getLast?=some c1:=by rw[<- h4,List.getLast?_eq_getElem?]
 have e3:decide (1<=(t.length:Int))=true:=by simp;omega
 have e4:decide ((t.length:Int)<=40)=true:=by simp;omega
 simp only[eO,e1,e2,e3,e4,Option.any_some,h5,h6,Bool.not_false,Bool.and_self,Bool.true_and]
theorem okF{a b:Bool}{x y:Int}(h1:(!a)=true)(h2:(!b)=true)(h3:(x != y)=true):(a||b||(x==y))=false:=by
 cases a<;>cases b<;>simp_all
theorem Vj{a b d:Bool}(h:(!a)=false):(a||b||d)=true:=by cases a<;>simp_all
theorem Vk{a b d:Bool}(h:(!b)=false):(a||b||d)=true:=by cases b<;>simp_all
theorem Vl{a b:Bool}{x y:Int}(h:(x != y)=false):(a||b||(x==y))=true:=by simp_all
theorem MD(t:List UInt8):au E 217 [.str t] (· = .bool (eO t)):=by
 refine eP Tryz.func217 ?_
 with_reducible refine aj (zU _ _ _) ?_
 refine gO Tryz.func217 ?_;refine ar (fun h1=>?_) (fun h1=>?_)
 ·refine gO Tryz.func217 ?_;refine bp ?_;refine gO Tryz.func217 ?_;refine bp ?_;refine gO Tryz.func217 ?_;have:(decide (1<=(t.length:Int))&&decide ((t.length:Int)<=40))=false:=by rw[Bool.not_eq_true']at h1;exact h1
  simp only[eO,this,Bool.false_and]
 ·have hb:1<=t.length/\t.length<=40:=by simp at h1;omega
  obtain⟨c0,rB⟩:=bd (l:=t) (k:=0) (by omega);obtain⟨c1,jR⟩:=bd (l:=t) (k:=t.length-1) (by omega);have hw:(IntKind.i64.wrap (t.length-1))=((t.length-1:Nat):Int):=by rw[wrap64 (by omega) (by omega)];omega
  refine gO Tryz.func217 ?_;refine uv c0 (by decide) rB ?_;refine gO Tryz.func217 ?_;refine ar (fun h2=>?_) (fun h2=>?_)
  ·refine gO Tryz.func217 ?_;refine bp ?_;refine gO Tryz.func217 ?_;have e1:t.head?=some c0:=by rw[<- rB];exact List.head?_eq_getElem?
   simp only[eO,e1,Option.any_some,h2,Bool.not_true,Bool.and_false,Bool.false_and]
  ·refine gO Tryz.func217 ?_;rw[hw];refine uv c1 (by omega) (by rw[Int.toNat_natCast];exact jR) ?_;refine gO Tryz.func217 ?_;refine ar (fun h3=>?_) (fun h3=>?_)
   ·refine gO Tryz.func217 ?_;have e2:t.getLast?=some c1:=by rw[<- jR,List.getLast?_eq_getElem?]
    simp only[eO,e2,Option.any_some,h3,Bool.not_true,Bool.and_false,Bool.false_and]
   ·rw[MC hb.1 hb.2 rB jR h2 h3];refine gO Tryz.func217 ?_;refine aa.loop (κ:=Nat) ([3,4,2]++rg 24 19) (fun k=>[(24,.d (.int .i64 k))]) (fun _=>[]) (fun k=>k<=t.length/\∀ j c,j<k->t[j]?=some c->oX c=true) (fun k=>t.length-k) 0 ⟨Nat.zero_le _,fun j c h=>by omega⟩ ?_ ?_
    ·exact sZ
    ·intro k hk IH;have no:∀ c,t[k]?=some c->oX c=false->t.all oX=false:=fun c hc h=>by
      rw[Bool.eq_false_iff];intro aW;have:=List.all_eq_true.1 aW c (List.mem_of_getElem? hc);rw[h]at this;cases this
     refine aa.head ag Tryz.func217 2000 ?_;(conv=>whnf);refine ar (fun h4=>?_) (fun h4=>?_)
     ·simp at h4;obtain⟨c,hc⟩:=bd h4;have next:oX c=true->∀ j c',j<k+1->t[j]?=some c'->oX c'=true:=fun ho j c' hj ss=>by
       rcases Nat.lt_or_ge j k with h|h
       ·exact hk.2 j c' h ss
       ·obtain rfl:j=k:=by omega
        rw[hc]at ss;cases ss;exact ho
      refine gO Tryz.func217 ?_;refine uv c (by omega) (by rw[Int.toNat_natCast];exact hc) ?_;refine gO Tryz.func217 ?_
      with_reducible refine aj (Mw _ _ _) ?_
      refine gO Tryz.func217 ?_;refine ar (fun h5=>?_) (fun h5=>?_)
      ·refine gO Tryz.func217 ?_
       with_reducible refine aj (Mw _ _ _) ?_
       refine gO Tryz.func217 ?_;refine ar (fun h6=>?_) (fun h6=>?_)
       ·refine gO Tryz.func217 ?_;refine ar (fun h7=>?_) (fun h7=>?_)
        ·refine gO Tryz.func217 ?_;rw[no c hc (okF h5 h6 h7)]
        ·refine gO Tryz.func217 ?_;refine aa.back (IH (k+1) ⟨by omega,next (Vl h7)⟩ (by omega)) ?_;exact sZ
       ·refine gO Tryz.func217 ?_;refine aY ?_;refine gO Tryz.func217 ?_;refine aa.back (IH (k+1) ⟨by omega,next (Vk h6)⟩ (by omega)) ?_;exact sZ
      ·refine gO Tryz.func217 ?_;refine aY ?_;refine gO Tryz.func217 ?_;refine aY ?_;refine gO Tryz.func217 ?_;refine aa.back (IH (k+1) ⟨by omega,next (Vj h5)⟩ (by omega)) ?_;exact sZ
     ·simp at h4;refine gO Tryz.func217 ?_;have:t.all oX=true:=by
       rw[List.all_eq_true];intro c hc;obtain⟨j,hj⟩:=List.getElem?_of_mem hc;exact hk.2 j c (by have:=aX hj;omega) hj
      rw[this]
structure pX where
 text:Int
 ME:Int
 MF:Int
 MG:Int
 MH:Int
 even:Bool
 single:Bool
 il:Bool
@[reducible] def pX.enc (r : pX) : DV := .agg [.int .i64 r.text, .int .i64 r.ME, .int .i64 r.MF, .int .i64 r.MG, .int .i64 r.MH, .bool r.even, .bool r.single, .bool r.il]
def fO:Nat->pX
 |1=>⟨0,1,1000000,0,0,false,false,true⟩
 |2=>⟨1,0,0,0,0,false,false,false⟩
 |3=>⟨1,0,0,0,0,false,true,false⟩
 |4=>⟨0,0,65535,0,100000,false,true,false⟩
 |5=>⟨3,0,0,0,0,false,false,true⟩
 |6=>⟨0,1,1000000,1,3,false,false,false⟩
 |7=>⟨0,1,1000000,1,3,false,false,false⟩
 |8=>⟨2,2,510,0,0,true,false,true⟩
 |_=>⟨0,0,0,0,0,false,false,false⟩
def mj(r:pX)(t:Text):Bool:=if r.text=1 then Nm.valid t && !Nm.il t else if r.text=2 then Nm.valid t else if r.text=3 then eO t else t==[]
def jB(r:pX)(d:Datum):Bool :=
 (decide (r.ME<=d.n)&&decide (d.n<=r.MF))&&(decide (r.MG<=d.m)&&decide (d.m<=r.MH)) && !(r.even&&(d.n.tmod 2 != 0))&&mj r d.text
theorem Vm(r:pX)(d:Datum)(hd:d.text.length<=maxLen):au E 168 [r.enc,d.enc] (· = .bool (jB r d)):=by
 obtain⟨rt,r1,r2,r3,r4,re,rs,rw⟩:=r;refine eP Tryz.func168 ?_;repeat' (first|with_reducible refine aj (zU _ _ _) ?_|with_reducible refine bj (zU _ _ _) ?_|with_reducible refine aj (nd _ hd) ?_|with_reducible refine bj (nd _ hd) ?_|with_reducible refine aj (CD _) ?_|with_reducible refine bj (CD _) ?_|with_reducible refine aj (MD _) ?_|with_reducible refine bj (MD _) ?_|with_reducible refine cY ?_|with_reducible refine cN ?_|with_reducible refine ar (fun _=>?_) (fun _=>?_)|refine gA Tryz.func168 ?_|refine gB ?_|refine gC ?_|with_reducible rfl)
 all_goals simp_all[jB,mj]
 all_goals (intros;exfalso;omega)
theorem Vn{k:Nat}(h1:1<=k)(h8:k<=8):∃ cs,CB=.agg cs/\(cs.drop (k*8)).take 8=(fO k).enc.cells:=by
 refine⟨_,rfl,?_⟩
 match k,h1,h8 with
 |1,_,_=>rfl
 |2,_,_=>rfl
 |3,_,_=>rfl
 |4,_,_=>rfl
 |5,_,_=>rfl
 |6,_,_=>rfl
 |7,_,_=>rfl
 |8,_,_=>rfl
structure eD.Fits(s:eD):Prop where
 name:s.name.length<=maxLen
 data:s.data.length<=2147483648
 texts:∀ d∈s.data,d.text.length<=maxLen
def ml(r:pX):Option Datum->List Datum->Bool
 |_,[]=>true
 |p,d::l=>jB r d&&(match p with|none=>true|some e=>decide (rA e d<0))&&ml r (some d) l
def lI(l:List Datum)(k:Nat):Option Datum:=if k=0 then none else l[k-1]?
theorem MI{r:pX}{l:List Datum}{k:Nat}{d:Datum}(hd:l[k]?=some d):ml r (lI l k) (l.drop k)=(jB r d&&(match lI l k with|none=>true|some e=>decide (rA e d<0))&&ml r (lI l (k+1)) (l.drop (k+1))):=by
 have hk:=aX hd;rw[List.drop_eq_getElem_cons hk];have e1:l[k]=d:=by simpa [hk]using hd
 have e2:lI l (k+1)=some d:=by simp[lI,hd]
 rw[e1,e2];rfl
def fa(s:eD):Bool:=Nm.valid s.name&&(decide (1<=s.type)&&decide (s.type<=8))&&(decide (0<=s.kc)&&decide (s.kc<=100000))&&(decide (1<=(s.data.length:Int))&&decide ((s.data.length:Int)<=8)) &&
 !((fO s.type.toNat).single&&((s.data.length:Int) != 1)) && !(Nm.il s.name && !(fO s.type.toNat).il)&&ml (fO s.type.toNat) none s.data
theorem CE(s:eD)(hf:s.Fits):au E 108 [s.enc] (· = .bool (fa s)):=by
 refine eP Tryz.func108 ?_;repeat' (first|with_reducible refine aj (nd _ hf.name) ?_|with_reducible refine bj (nd _ hf.name) ?_|with_reducible refine aj (zU _ _ _) ?_|with_reducible refine bj (zU _ _ _) ?_|with_reducible refine cY ?_|with_reducible refine cN ?_|with_reducible refine ar (fun _=>?_) (fun _=>?_)|refine gA Tryz.func108 ?_|refine gB ?_|refine gC ?_|with_reducible rfl)
 all_goals try (simp only[Bool.not_eq_true',Bool.not_eq_false',List.length_map]at *;simp only[fa, *,Bool.false_and,Bool.and_false];done)
 rename_i h1 h2 h3 h4;rw[List.length_map]at h4;rw[Bool.not_eq_false']at h1 h2 h3 h4;have ht:1<=s.type/\s.type<=8:=by simpa using h2
 have hl:1<=s.data.length/\s.data.length<=8:=by simp at h4;omega
 obtain⟨t,qH⟩:=Int.eq_ofNat_of_zero_le (a:=s.type) (by omega);obtain⟨cs,ln,MJ⟩:=Vn (k:=t) (by omega) (by omega);cases ln;refine SI (fO t).enc (by omega) (by omega) (by decide) (by rw[qH];exact MJ) rfl ?_;have cQ:fa s=(!((fO t).single&&((s.data.length:Int) != 1)) && !(Nm.il s.name && !(fO t).il)&&ml (fO t) none s.data):=by
  simp only[fa,h1,h2,h3,h4,Bool.true_and];rw[qH,Int.toNat_natCast]
 rw[cQ];generalize fO t=r;clear cQ MJ;refine gO Tryz.func108 ?_;repeat' (first|with_reducible refine aj (CD _) ?_|with_reducible refine bj (CD _) ?_|with_reducible refine cY ?_|with_reducible refine cN ?_|with_reducible refine ar (fun _=>?_) (fun _=>?_)|refine gA Tryz.func108 ?_|refine gB ?_|refine gC ?_|with_reducible rfl)
 all_goals try (simp only[List.length_map,Bool.not_eq_true',Bool.not_eq_false']at *;simp only[*,Bool.true_and,Bool.not_true,Bool.not_false,Bool.and_false,Bool.false_and,Bool.and_self];done)
 all_goals
  have fM:(!(r.single&&((s.data.length:Int) != 1)) && !(Nm.il s.name && !r.il)&&ml r none s.data)=ml r none s.data:=by
   try simp only[List.length_map]at *
   simp only[*,Bool.not_true,Bool.not_false,Bool.and_false,Bool.false_and,Bool.and_self,Bool.true_and]
  rw[fM];clear fM;refine gO Tryz.func108 ?_;refine aa.loop (κ:=Nat) ([2,4,5]++rg 52 25) (fun k=>[(52,.d (.int .i64 k))]) (fun _=>[]) (fun k=>k<=s.data.length/\ml r none s.data=ml r (lI s.data k) (s.data.drop k)) (fun k=>s.data.length-k) 0 ⟨Nat.zero_le _,rfl⟩ ?_ ?_
  ·exact sZ
  ·intro k hk IH;refine aa.head ag Tryz.func108 2000 ?_;(conv=>whnf);refine ar (fun h5=>?_) (fun h5=>?_)
   ·have ai:k<s.data.length:=by simpa using h5
    obtain⟨d,hd⟩:=bd ai;have bc:=MI (r:=r) hd;rw[<- hk.2]at bc;refine gO Tryz.func108 ?_;refine fu d.enc (by omega) (rz hd) rfl ?_;refine gO Tryz.func108 ?_;refine aa.draw ag bN 19 2000 (by kernel_rfl) ?_;conv=>whnf
    with_reducible refine bj (Vm r d (hf.texts d (List.mem_of_getElem? hd))) ?_
    refine gD ?_;refine ar (fun h6=>?_) (fun h6=>?_)
    ·refine gD ?_;refine gS ?_;refine gO Tryz.func108 ?_;refine bp ?_;refine gO Tryz.func108 ?_;rw[Bool.not_eq_true']at h6;rw[bc,h6,Bool.false_and,Bool.false_and]
    ·rw[Bool.not_eq_false']at h6;refine gD ?_;refine ar (fun h7=>?_) (fun h7=>?_)
     ·have dh:0<k:=by simpa using h7
      obtain⟨e,he⟩:=bd (l:=s.data) (k:=k-1) (by omega);have hw:IntKind.i64.wrap ((k:Int)-1)=((k-1:Nat):Int):=by rw[wrap64 (by omega) (by omega)];omega
      have rC:lI s.data k=some e:=by simp[lI,he];omega
      refine gD ?_;rw[hw];refine fu e.enc (by omega) (rz he) rfl ?_;refine gD ?_
      with_reducible refine bj (Vf _ _) ?_
      refine gD ?_;refine gS ?_;refine gO Tryz.func108 ?_;refine ar (fun h8=>?_) (fun h8=>?_)
      ·refine gO Tryz.func108 ?_;have:decide (rA e d<0)=false:=by simp at h8 ⊢;omega
       rw[bc,rC];dsimp only;rw[this,Bool.and_false,Bool.false_and]
      ·refine gO Tryz.func108 ?_;have:decide (rA e d<0)=true:=by simp at h8 ⊢;omega
       refine aa.back (IH (k+1) ⟨by omega,by rw[bc,rC];dsimp only;rw[this,h6];rfl⟩ (by omega)) ?_;exact sZ
     ·have dh:k=0:=by simp at h7;omega
      have rC:lI s.data k=none:=by simp[lI,dh]
      refine gD ?_;refine gS ?_;refine gO Tryz.func108 ?_;refine aY ?_;refine gO Tryz.func108 ?_;refine aa.back (IH (k+1) ⟨by omega,by rw[bc,rC,h6];rfl⟩ (by omega)) ?_;exact sZ
   ·have aG:s.data.length<=k:=by simpa using h5
    refine gO Tryz.func108 ?_;rw[hk.2,List.drop_of_length_le aG];rfl
theorem dK{l:Text}(h:Nm.valid l=true):l.length<=60:=by
 simp only[Nm.valid,Bool.or_eq_true,decide_eq_true_eq,Bool.and_eq_true]at h;rcases h with rfl|h
 ·simp
 ·exact h.1
theorem Vo{r:pX}{t:Text}(h:mj r t=true):t.length<=60:=by
 unfold mj at h;split at h
 ·simp at h;exact dK h.1
 ·split at h
  ·exact dK h
  ·split at h
   ·simp[eO]at h;omega
   ·simp at h;simp[h]
theorem CF{r:pX}:∀ {p:Option Datum} {l:List Datum},ml r p l=true->∀ d∈l,jB r d=true
 |_,[],_,d,hd=>by simp at hd
 |p,e::l,h,d,hd=>by
  simp only[ml,Bool.and_eq_true]at h;rcases List.mem_cons.1 hd with rfl|hd
  ·exact h.1.1
  ·exact CF h.2 d hd
theorem rD{s:eD}(h:fa s=true):s.name.length<=60/\s.data.length<=8/\1<=s.data.length/\∀ d∈s.data,d.text.length<=60:=by
 simp only[fa,Bool.and_eq_true,decide_eq_true_eq]at h;obtain⟨⟨⟨⟨⟨⟨h1,h2⟩,h3⟩,h4⟩,h5⟩,h6⟩,h7⟩:=h;refine⟨dK h1,by omega,by omega,fun d hd=>?_⟩;have:=CF h7 d hd;simp only[jB,Bool.and_eq_true]at this;exact Vo this.2
theorem dW{α:Type}{l:List α}{k:Nat}{x:α}(h:l[k]?=some x):l.take (k+1)=l.take k++[x]:=by
 rw[List.take_add_one,h];rfl
theorem zW(t z:Text)(ht:t.length<=maxLen)(hz:z.length<=maxLen):au E 91 [.str t,.str z] (· = .aJ [.bool (Nm.nb t z),.int .i64 (if Nm.valid t&&Nm.valid z then 0 else 11)]) :=
 GG (g:=fun t z => .aJ [.bool (Nm.nb t z),.int .i64 (if Nm.valid t&&Nm.valid z then 0 else 11)]) t z ⟨_,Tryz.func91,rfl,by decide⟩ fun w=>(Vb ⟨t.toArray⟩ ⟨z.toArray⟩ w (size_mk ht) (size_mk hz)).mono fun e w' ⟨h1,h2⟩=>⟨_,h1,fun _ _=>by
  simp only[kf]
  exact .aJ _ _ rfl (fun j x v hx hv=>by
   match j with
   |0=>simp at hx hv;subst hx;subst hv;exact .bool _
   |1=>simp at hx hv;subst hx;subst hv;exact .int _ _
   |j+2=>simp at hx),h2⟩
def Vp(k:Key):Bool:=decide (k.n>=1)&&decide (k.n<=1000000)&&decide (k.pU>=1)&&decide (k.pU<=3)
def Vq(a b:Int):Bool:=decide (a>=0)&&decide (a<=b)&&decide (b<=20000000)
def Vr(s:eD)(aE:Text)(k:Key)(ru upto:Int):Bool:=Vp k&&Vq ru upto&&Nm.valid aE && !Nm.il aE&&fa s&&Nm.nb s.name aE
def CG:iS:=⟨[],0,0,0,0,0⟩
theorem iU{α:Type}{p:α->Bool}{l:List α}{k:Nat}{x:α}(h:l[k]?=some x)(hx:p x=false):l.all p=false:=by
 rw[Bool.eq_false_iff];intro aW;have:=List.all_eq_true.1 aW x (List.mem_of_getElem? h);rw[hx]at this;cases this
theorem jC{α:Type}{p:α->Bool}{l:List α}{k:Nat}{x:α}(hk:(l.take k).all p=true)(h:l[k]?=some x)(hx:p x=true):(l.take (k+1)).all p=true:=by
 rw[dW h,List.all_append,hk];simp[hx]
theorem nX{α:Type}{p:α->Bool}{l:List α}{k:Nat}(hk:(l.take k).all p=true)(h:l.length<=k):l.all p=true:=by
 rwa [List.take_of_length_le h]at hk
theorem jD(x a b:Int):au E 184 [.int .i64 x,.int .i64 a,.int .i64 b] (· = .bool (decide (a<=x)&&decide (x<=b))):=by
 refine eP Tryz.func184 ?_;repeat' (first|with_reducible(first|refine cY ?_|refine cN ?_|refine ar (fun _=>?_) (fun _=>?_))|refine gA Tryz.func184 ?_|refine gB ?_|refine gC ?_|with_reducible rfl)
 all_goals simp_all
 all_goals omega
theorem MZ(t:Int):au E 185 [.int .i64 t] (· = .bool (t==3||t==4)):=by
 refine eP Tryz.func185 ?_;repeat' (first|with_reducible(first|refine cY ?_|refine cN ?_|refine ar (fun _=>?_) (fun _=>?_))|refine gA Tryz.func185 ?_|refine gB ?_|refine gC ?_|with_reducible rfl)
 all_goals simp_all
def CJ(a b:Datum):Bool:=if a.text≠b.text then Op.bytesLess a.text b.text else if a.n≠b.n then decide (a.n<b.n)else decide (a.m<b.m)
theorem V7(a b:Datum):au E 188 [a.enc,b.enc] (· = .bool (CJ a b)):=by
 refine eP Tryz.func188 ?_;repeat' (first|with_reducible(first|refine cY ?_|refine cN ?_|refine ar (fun _=>?_) (fun _=>?_))|refine gA Tryz.func188 ?_|refine gB ?_|refine gC ?_|with_reducible rfl)
 all_goals simp_all[CJ]
theorem kO(t:Text):au E 226 [.str t] (· = .bool (eO t)):=by
 by_cases hb:1<=t.length/\t.length<=40
 ·obtain⟨c0,rB⟩:=bd (l:=t) (k:=0) (by omega);obtain⟨c1,jR⟩:=bd (l:=t) (k:=t.length-1) (by omega);have hw:(IntKind.i64.wrap (t.length-1))=((t.length-1:Nat):Int):=by rw[wrap64 (by omega) (by omega)];omega
  refine eP F226 ?_;refine aO (by simp;omega) ?_;refine gO F226 ?_;refine aO (by simp;omega) ?_;refine gO F226 ?_;refine uv c0 (by decide) rB ?_;refine gO F226 ?_;refine ar (fun h2=>?_) (fun h2=>?_)
  ·refine gO F226 ?_;refine bp ?_;refine gO F226 ?_;have e1:t.head?=some c0:=by rw[<- rB];exact List.head?_eq_getElem?
   simp only[eO,e1,Option.any_some,h2,Bool.not_true,Bool.and_false,Bool.false_and]
  ·refine gO F226 ?_;rw[hw];refine uv c1 (by omega) (by rw[Int.toNat_natCast];exact jR) ?_;refine gO F226 ?_;refine ar (fun h3=>?_) (fun h3=>?_)
   ·refine gO F226 ?_;have e2:t.getLast?=some c1:=by rw[<- jR,List.getLast?_eq_getElem?]
    simp only[eO,e2,Option.any_some,h3,Bool.not_true,Bool.and_false,Bool.false_and]
   ·rw[MC hb.1 hb.2 rB jR h2 h3];refine gO F226 ?_;refine aa.loop (κ:=Nat) ([2,4,5]++rg 26 26) (fun k=>[(4,.d (.int .i64 k))]) (fun _=>[]) (fun k=>k<=t.length/\(t.take k).all oX=true) (fun k=>t.length-k) 0 ⟨Nat.zero_le _,rfl⟩ ?_ ?_
    ·exact sZ
    ·intro k hk IH;refine aa.head ag F226 2000 ?_;(conv=>whnf);refine ar (fun h4=>?_) (fun h4=>?_)
     ·simp at h4;obtain⟨c,hc⟩:=bd h4;refine gO F226 ?_;refine uv c (by omega) (by rw[Int.toNat_natCast];exact hc) ?_;refine gO F226 ?_;repeat' (first|with_reducible(first|refine cY ?_|refine cN ?_|refine ar (fun _=>?_) (fun _=>?_))|refine gA F226 ?_|refine gB ?_|refine gC ?_|with_reducible rfl)
      all_goals first
       |(rw[iU hc (by simp_all[oX]<;>omega)];done)
       |skip
      all_goals
       refine gO F226 ?_;refine aa.back (IH (k+1) ⟨by omega,jC hk.2 hc (by simp_all[oX]<;>omega)⟩ (by omega)) ?_;exact sZ
     ·simp at h4;refine gO F226 ?_;rw[nX hk.2 h4]
 ·have dE:eO t=false:=by
   simp only[eO,Bool.and_eq_false_iff,decide_eq_false_iff_not];omega
  rw[dE];refine eP F226 ?_;refine ar (fun h=>?_) (fun h=>?_)
  ·refine gO F226 ?_;refine bp ?_;refine gO F226 ?_;refine bp ?_;refine gO F226 ?_;refine bp ?_;refine gO F226 ?_
   with_reducible rfl
  ·simp at h;refine gO F226 ?_;refine aI (by simp;omega) ?_;refine gO F226 ?_;refine bp ?_;refine gO F226 ?_;refine bp ?_;refine gO F226 ?_
   with_reducible rfl
theorem s8(n:Int):(n==0)=(decide (0<=n)&&decide (n<=0)):=by
 rw[Bool.eq_iff_iff];simp;omega
theorem V8(k:Nat)(d:Datum)(hk:1<=k/\k<=8)(hd:d.text.length<=maxLen):au E 187 [.int .i64 k,d.enc] (· = .bool (jB (fO k) d)):=by
 match k,hk with
 |1,_ =>
  refine eP F187 ?_;repeat' (first|with_reducible(first|refine aj (jD _ _ _) ?_|refine bj (jD _ _ _) ?_|refine aj (fF _ hd) ?_|refine bj (fF _ hd) ?_|refine aj (jA _ hd) ?_|refine bj (jA _ hd) ?_|refine aj (kO _) ?_|refine bj (kO _) ?_|refine cY ?_|refine cN ?_|refine ar (fun _=>?_) (fun _=>?_))|refine gA F187 ?_|refine gB ?_|refine gC ?_|with_reducible rfl)
  all_goals simp_all[jB,mj,fO]
  all_goals first|omega|exact s8 _
 |2,_ =>
  refine eP F187 ?_;repeat' (first|with_reducible(first|refine aj (jD _ _ _) ?_|refine bj (jD _ _ _) ?_|refine aj (fF _ hd) ?_|refine bj (fF _ hd) ?_|refine aj (jA _ hd) ?_|refine bj (jA _ hd) ?_|refine aj (kO _) ?_|refine bj (kO _) ?_|refine cY ?_|refine cN ?_|refine ar (fun _=>?_) (fun _=>?_))|refine gA F187 ?_|refine gB ?_|refine gC ?_|with_reducible rfl)
  all_goals simp_all[jB,mj,fO]
  all_goals first|omega|exact s8 _
 |3,_ =>
  refine eP F187 ?_;repeat' (first|with_reducible(first|refine aj (jD _ _ _) ?_|refine bj (jD _ _ _) ?_|refine aj (fF _ hd) ?_|refine bj (fF _ hd) ?_|refine aj (jA _ hd) ?_|refine bj (jA _ hd) ?_|refine aj (kO _) ?_|refine bj (kO _) ?_|refine cY ?_|refine cN ?_|refine ar (fun _=>?_) (fun _=>?_))|refine gA F187 ?_|refine gB ?_|refine gC ?_|with_reducible rfl)
  all_goals simp_all[jB,mj,fO]
  all_goals first|omega|exact s8 _
 |4,_ =>
  refine eP F187 ?_;repeat' (first|with_reducible(first|refine aj (jD _ _ _) ?_|refine bj (jD _ _ _) ?_|refine aj (fF _ hd) ?_|refine bj (fF _ hd) ?_|refine aj (jA _ hd) ?_|refine bj (jA _ hd) ?_|refine aj (kO _) ?_|refine bj (kO _) ?_|refine cY ?_|refine cN ?_|refine ar (fun _=>?_) (fun _=>?_))|refine gA F187 ?_|refine gB ?_|refine gC ?_|with_reducible rfl)
  all_goals simp_all[jB,mj,fO]
  all_goals first|omega|exact s8 _
 |5,_ =>
  refine eP F187 ?_;repeat' (first|with_reducible(first|refine aj (jD _ _ _) ?_|refine bj (jD _ _ _) ?_|refine aj (fF _ hd) ?_|refine bj (fF _ hd) ?_|refine aj (jA _ hd) ?_|refine bj (jA _ hd) ?_|refine aj (kO _) ?_|refine bj (kO _) ?_|refine cY ?_|refine cN ?_|refine ar (fun _=>?_) (fun _=>?_))|refine gA F187 ?_|refine gB ?_|refine gC ?_|with_reducible rfl)
  all_goals simp_all[jB,mj,fO]
  all_goals first|omega|exact s8 _
 |6,_ =>
  refine eP F187 ?_;repeat' (first|with_reducible(first|refine aj (jD _ _ _) ?_|refine bj (jD _ _ _) ?_|refine aj (fF _ hd) ?_|refine bj (fF _ hd) ?_|refine aj (jA _ hd) ?_|refine bj (jA _ hd) ?_|refine aj (kO _) ?_|refine bj (kO _) ?_|refine cY ?_|refine cN ?_|refine ar (fun _=>?_) (fun _=>?_))|refine gA F187 ?_|refine gB ?_|refine gC ?_|with_reducible rfl)
  all_goals simp_all[jB,mj,fO]
  all_goals first|omega|exact s8 _
 |7,_ =>
  refine eP F187 ?_;repeat' (first|with_reducible(first|refine aj (jD _ _ _) ?_|refine bj (jD _ _ _) ?_|refine aj (fF _ hd) ?_|refine bj (fF _ hd) ?_|refine aj (jA _ hd) ?_|refine bj (jA _ hd) ?_|refine aj (kO _) ?_|refine bj (kO _) ?_|refine cY ?_|refine cN ?_|refine ar (fun _=>?_) (fun _=>?_))|refine gA F187 ?_|refine gB ?_|refine gC ?_|with_reducible rfl)
  all_goals simp_all[jB,mj,fO]
  all_goals first|omega|exact s8 _
 |8,_ =>
  refine eP F187 ?_;repeat' (first|with_reducible(first|refine aj (jD _ _ _) ?_|refine bj (jD _ _ _) ?_|refine aj (fF _ hd) ?_|refine bj (fF _ hd) ?_|refine aj (jA _ hd) ?_|refine bj (jA _ hd) ?_|refine aj (kO _) ?_|refine bj (kO _) ?_|refine cY ?_|refine cN ?_|refine ar (fun _=>?_) (fun _=>?_))|refine gA F187 ?_|refine gB ?_|refine gC ?_|with_reducible rfl)
  all_goals simp_all[jB,mj,fO]
  all_goals first|omega|exact s8 _
theorem mn:∀ (a:Text),Op.bytesLess a a=false
 |[]=>rfl
 |c::a=>by simp[Op.bytesLess,mn a]
theorem V9(a b:Datum):CJ a b=decide (rA a b<0):=by
 unfold CJ rA;by_cases h1:a.text=b.text
 ·simp only[h1,ne_eq,not_true_eq_false,if_false,xl,mn,Bool.false_eq_true,oW,if_true,gF];by_cases h2:a.n=b.n
  ·simp only[h2,not_true_eq_false,if_false,Int.lt_irrefl,if_true];rw[Bool.eq_iff_iff];simp only[decide_eq_true_eq];repeat' split
   all_goals omega
  ·simp only[h2,not_false_eq_true,if_true];rw[Bool.eq_iff_iff];simp only[decide_eq_true_eq];repeat' split
   all_goals omega
 ·simp only[h1,ne_eq,not_false_eq_true,if_true,xl,oW];cases h:Op.bytesLess a.text b.text
  ·simp[h1]
  ·simp
theorem V'{k:Nat}(h:1<=k/\k<=8):(fO k).single=((k:Int)==3||(k:Int)==4):=by
 match k,h with
 |1,_=>rfl
 |2,_=>rfl
 |3,_=>rfl
 |4,_=>rfl
 |5,_=>rfl
 |6,_=>rfl
 |7,_=>rfl
 |8,_=>rfl
theorem Wa{k:Nat}(h:1<=k/\k<=8):(!(fO k).il)=((k:Int) != 1&&(k:Int) != 5&&(k:Int) != 8):=by
 match k,h with
 |1,_=>rfl
 |2,_=>rfl
 |3,_=>rfl
 |4,_=>rfl
 |5,_=>rfl
 |6,_=>rfl
 |7,_=>rfl
 |8,_=>rfl
end Go.Proofs.YtcmnpelmmekdkaaGreatDoor.P
end
section
namespace Go.Proofs.YtcmnpelmmekdkaaGreatDoor.P
open Go Go.aA
set_option maxRecDepth 100000
set_option maxHeartbeats 4000000
theorem Wb(s:eD):fa s=(Nm.valid s.name&&(decide (1<=s.type)&&decide (s.type<=8))&&(decide (0<=s.kc)&&decide (s.kc<=100000))&&(decide (1<=(s.data.length:Int))&&decide ((s.data.length:Int)<=8)) &&
  !((s.type==3||s.type==4)&&decide ((s.data.length:Int)>1)) && !(Nm.il s.name&&(s.type != 1&&s.type != 5&&s.type != 8))&&ml (fO s.type.toNat) none s.data):=by
 by_cases ht:1<=s.type/\s.type<=8
 ·by_cases hn:1<=(s.data.length:Int)
  ·obtain⟨t,qH⟩:=Int.eq_ofNat_of_zero_le (a:=s.type) (by omega);have h8:1<=t/\t<=8:=by omega
   have e1:=V' h8;have e2:=Wa h8;have e3:((s.data.length:Int) != 1)=decide ((s.data.length:Int)>1):=by
    rw[Bool.eq_iff_iff];simp;omega
   simp only[fa,qH,Int.toNat_natCast,e1,e2,e3]
  ·simp[fa,hn]
 ·simp only[fa];have:(decide (1<=s.type)&&decide (s.type<=8))=false:=by
   rw[Bool.and_eq_false_iff];simp;omega
  simp only[this,Bool.and_false,Bool.false_and]
theorem Wc(k:Int)(d:Datum)(hk:1<=k/\k<=8)(hd:d.text.length<=maxLen):au E 187 [.int .i64 k,d.enc] (· = .bool (jB (fO k.toNat) d)):=by
 obtain⟨t,rfl⟩:=Int.eq_ofNat_of_zero_le (a:=k) (by omega);rw[Int.toNat_natCast];exact V8 t d (by omega) hd
theorem CK(s:eD)(hf:s.Fits):au E 119 [s.enc] (· = .bool (fa s)):=by
 rw[Wb];refine eP F119 ?_;repeat' (first|with_reducible(first|refine aj (fF _ hf.name) ?_|refine bj (fF _ hf.name) ?_|refine aj (jD _ _ _) ?_|refine bj (jD _ _ _) ?_|refine aj (MZ _) ?_|refine bj (MZ _) ?_|refine aj (jA _ hf.name) ?_|refine bj (jA _ hf.name) ?_|refine cY ?_|refine cN ?_|refine ar (fun _=>?_) (fun _=>?_))|refine gA F119 ?_|refine gB ?_|refine gC ?_|with_reducible rfl)
 all_goals try simp only[List.length_map]at *
 all_goals try (simp only[Bool.not_eq_true',Bool.not_eq_false']at *;simp only[*,Bool.false_and,Bool.and_false,Bool.true_and,Bool.not_true,Bool.not_false,Bool.and_true,Bool.and_self];done)
 all_goals
  have fM:∀ {a b c d e f:Bool},(!a)=false->(!b)=false->(!c)=false->(!d)=false->e=false->f=false->∀ g:Bool,(a&&b&&c&&d && !e && !f&&g)=g:=fun h1 h2 h3 h4 h5 h6 g=>by
   simp_all
  have M0:1<=s.type/\s.type<=8:=by simp_all
  have hl:s.data.length<=8:=by simp_all<;>omega
  rw[fM (by assumption) (by assumption) (by assumption) (by assumption) (by simp_all<;>omega) (by simp_all) _];clear fM;refine gO F119 ?_;refine aa.loop (κ:=Nat) ([2,4]++rg 56 33) (fun k=>[(4,.d (.int .i64 k))]) (fun _=>[]) (fun k=>k<=s.data.length/\ml (fO s.type.toNat) none s.data=ml (fO s.type.toNat) (lI s.data k) (s.data.drop k)) (fun k=>s.data.length-k) 0 ⟨Nat.zero_le _,rfl⟩ ?_ ?_
  ·exact sZ
  ·intro k hk IH;refine aa.head ag F119 2000 ?_;(conv=>whnf);refine ar (fun h5=>?_) (fun h5=>?_)
   ·have ai:k<s.data.length:=by simpa using h5
    obtain⟨d,hd⟩:=bd ai;have bc:=MI (r:=fO s.type.toNat) hd;rw[<- hk.2]at bc;refine gO F119 ?_;refine aa.draw ag bN 28 2000 (by kernel_rfl) ?_;(conv=>whnf);refine fu d.enc (by omega) (rz hd) rfl ?_;refine gD ?_
    with_reducible refine bj (Wc _ d M0 (hf.texts d (List.mem_of_getElem? hd))) ?_
    refine gD ?_;refine ar (fun h6=>?_) (fun h6=>?_)
    ·refine gD ?_;refine gS ?_;refine gO F119 ?_;refine bp ?_;refine gO F119 ?_;rw[Bool.not_eq_true']at h6;rw[bc,h6,Bool.false_and,Bool.false_and]
    ·rw[Bool.not_eq_false']at h6;refine gD ?_;refine ar (fun h7=>?_) (fun h7=>?_)
     ·have dh:0<k:=by simpa using h7
      obtain⟨e,he⟩:=bd (l:=s.data) (k:=k-1) (by omega);have hw:IntKind.i64.wrap ((k:Int)-1)=((k-1:Nat):Int):=by rw[wrap64 (by omega) (by omega)];omega
      have rC:lI s.data k=some e:=by simp[lI,he];omega
      refine gD ?_;rw[hw];refine fu e.enc (by omega) (rz he) rfl ?_;refine gD ?_;refine fu d.enc (by omega) (rz hd) rfl ?_;refine gD ?_
      with_reducible refine bj (V7 _ _) ?_
      refine gD ?_;rw[V9];refine gS ?_;refine gO F119 ?_;refine ar (fun h8=>?_) (fun h8=>?_)
      ·refine gO F119 ?_;have:decide (rA e d<0)=false:=by simpa using h8
       rw[bc,rC];dsimp only;rw[this,Bool.and_false,Bool.false_and]
      ·refine gO F119 ?_;have:decide (rA e d<0)=true:=by simpa using h8
       refine aa.back (IH (k+1) ⟨by omega,by rw[bc,rC];dsimp only;rw[this,h6];rfl⟩ (by omega)) ?_;exact sZ
     ·have dh:k=0:=by simp at h7;omega
      have rC:lI s.data k=none:=by simp[lI,dh]
      refine gD ?_;refine gS ?_;refine gO F119 ?_;refine aY ?_;refine gO F119 ?_;refine aa.back (IH (k+1) ⟨by omega,by rw[bc,rC,h6];rfl⟩ (by omega)) ?_;exact sZ
   ·have aG:s.data.length<=k:=by simpa using h5
    refine gO F119 ?_;rw[hk.2,List.drop_of_length_le aG];rfl
def Wd:eD:=⟨[97,46,120],1,5,[⟨[],7,0⟩]⟩
def We:Key:=⟨3,1⟩
theorem rF:Vr Wd [120] We 10 20=true:=by decide +kernel
theorem M3(t:Text):(Nm.split t).length<=t.length+1:=by
 induction t with
 |nil=>simp[Nm.split]
 |cons c r ih =>
  by_cases hc:c=46
  ·subst hc;simp[Nm.split];omega
  ·obtain⟨x,u,h1,h2⟩:=Nm.rq c r hc;rw[h2];rw[h1]at ih;simp at ih ⊢;omega
theorem Wf(t:Text):∀ x∈Nm.split t,x.length<=t.length:=by
 induction t with
 |nil=>simp[Nm.split]
 |cons c r ih =>
  intro x hx;by_cases hc:c=46
  ·subst hc;simp only[Nm.split,if_true]at hx;rcases List.mem_cons.1 hx with rfl|hx
   ·simp
   ·have:=ih x hx;simp;omega
  ·obtain⟨y,u,h1,h2⟩:=Nm.rq c r hc;rw[h2]at hx;rw[h1]at ih;rcases List.mem_cons.1 hx with rfl|hx
   ·have:=ih y (List.mem_cons_self ..);simp;omega
   ·have:=ih x (List.mem_cons_of_mem _ hx);simp;omega
theorem M4(t:Text)(ht:t.length<=1000):au E 49 [.str t] (· = .sl ((Nm.split t).map .str)):=by
 refine au.run ag (fn:=Tryz.f49) Tryz.func49 (body:=Tryz.f49.body.getD .skip) rfl (by decide) 6 ?_;(conv=>whnf);refine aa.kM ag rfl ?_;refine gO F49 ?_;refine aa.loop (κ:=Nat) ([3,4]++rg 6 30) (fun k=>[(4,.d (.int .i64 k)),(3,.own 0 1)]) (fun k=>[(0,.arr 1 (9,1) ((Nm.split (t.take k)).map .str))]) (fun k=>k<=t.length) (fun k=>t.length-k) 0 (Nat.zero_le _) ?_ ?_
 ·(conv=>whnf);repeat (first|exact trivial|(refine sI ?_;conv=>whnf))
  refine And.intro (by simp[Nm.split]) ?_;exact sZ
 ·intro k hk IH;have hlen:=M3 (t.take k);rw[List.length_take]at hlen;refine aa.head ag F49 2000 ?_;(conv=>whnf);refine ar (fun h1=>?_) (fun h1=>?_)
  ·have ai:k<t.length:=by simpa using h1
   obtain⟨c,hc⟩:=bd ai;refine gO F49 ?_;refine uv c (by omega) (by rw[Int.toNat_natCast];exact hc) ?_;refine gO F49 ?_;refine ar (fun h2=>?_) (fun h2=>?_)
   ·have GU:c=46:=by
     have:(c.toNat:Int)=46:=by simpa using h2
     exact UInt8.toNat_inj.1 (by simp;omega)
    refine gO F49 ?_;refine bA ⟨by simp;omega,by simp[DV.cells]⟩ ?_;refine gO F49 ?_;refine aa.back (IH (k+1) (by omega) (by omega)) ?_;(conv=>whnf);repeat (first|exact trivial|(refine sI ?_;conv=>whnf))
    refine And.intro (by rw[Nm.LR t k c hc GU];simp) ?_;exact sZ
   ·have GU:c≠46:=by rintro rfl;simp at h2
    obtain⟨i,x,e1⟩:∃ i x,Nm.split (t.take k)=i++[x]:=⟨_,_,(List.dropLast_concat_getLast (Nm.nT _)).symm⟩;have aV:=Nm.LS t k c hc GU i x e1;rw[e1]at hlen ⊢;have hw:IntKind.i64.wrap ((((i++[x]).map DV.str).length:Int)-1)=(i.length:Int):=by
     rw[wrap64 (by simp) (by simp;simp at hlen;omega)];simp
    refine gO F49 ?_;refine aa.draw ag bN 17 2000 (by kernel_rfl) ?_;(conv=>whnf);rw[hw];have dM:((i++[x]).map DV.str)[((i.length:Nat):Int).toNat]?=some (.str x):=by simp
    have M5:(List.drop (Int.toNat (k:Int)) (List.take (IntKind.i64.wrap ((k:Int)+1)).toNat t))=[c]:=by
     rw[wrap64 (by omega) (by omega),show((k:Int)+1).toNat=k+1 by omega,Int.toNat_natCast,dW hc];simp[Nat.min_eq_left (Nat.le_of_lt ai)]
    refine bA ⟨by omega,by simp;omega⟩ ?_;refine gD ?_;refine fu (.str x) (by omega) dM rfl ?_;refine gD ?_;have dU:IntKind.i64.wrap ((k:Int)+1)=(k:Int)+1:=wrap64 (by omega) (by omega);refine bA ⟨by simp,by simp[dU];omega,by simp[dU];omega⟩ ?_;refine gD ?_;have iT:x.length<=1000:=by
     have:=Wf (t.take k) x (by rw[e1];simp);simp at this;omega
    simp only[Option.getD_some];rw[M5];refine bA (by simp;omega) ?_;refine gD ?_;refine bA ⟨by omega,by simp;omega⟩ ?_;refine gD ?_;refine gS ?_;refine fu (.str x) (by omega) dM rfl ?_;refine gS ?_;refine gO F49 ?_;refine aa.back (IH (k+1) (by omega) (by omega)) ?_;(conv=>whnf);repeat (first|exact trivial|(refine sI ?_;conv=>whnf))
    refine And.intro (by rw[aV];simp[List.set_append_right]) ?_;exact sZ
  ·have aG:k=t.length:=by simp at h1;omega
   subst aG;refine gO F49 ?_;simp
theorem z7(t:Text)(ht:t.length<=1000):au E 47 [.str t] (· = .sl ((Nm.labels t).map .str)):=by
 refine au.norm ?_;refine eP Tryz.func47 ?_;repeat' (first|with_reducible(first|refine aj (M4 _ ht) ?_|refine bj (M4 _ ht) ?_|refine cY ?_|refine cN ?_|refine ar (fun _=>?_) (fun _=>?_))|refine gA Tryz.func47 ?_|refine gB ?_|refine gC ?_|with_reducible rfl)
 all_goals simp_all[Nm.labels,norm]
theorem pZ(t z:Text)(ht:t.length<=1000)(hz:z.length<=1000):au E 157 [.str t,.str z] (· = .bool (Nm.under t z)) :=
 GG (g:=fun t z => .bool (Nm.under t z)) t z ⟨_,Tryz.func157,rfl,by decide⟩ fun w=>(UD ⟨t.toArray⟩ ⟨z.toArray⟩ w (by simpa [ByteArray.size]using ht) (by simpa [ByteArray.size]using hz)).mono fun e w' ⟨h1,h2⟩=>⟨_,h1,fun _ _=>by
  simp only[kf]
  exact .bool _,h2⟩
def rG(t:Text):Bool:=match Nm.labels t with
 |[]=>false
 |x::_=>x==[42]
theorem GV(t:Text)(ht:t.length<=1000):au E 118 [.str t] (· = .bool (rG t)):=by
 unfold rG;refine eP Tryz.func118 ?_
 with_reducible refine aj (z7 _ ht) ?_
 refine gO Tryz.func118 ?_;cases hl:Nm.labels t with
 |nil =>
  refine aO (by simp) ?_;refine gO Tryz.func118 ?_
  with_reducible rfl
 |cons x l =>
  refine aI (by simp) ?_;refine gO Tryz.func118 ?_;refine fu (.str x) (by decide) rfl rfl ?_;refine gO Tryz.func118 ?_
  with_reducible rfl
def cmpL:List Text->List Text->Int
 |[],[]=>0
 |[],_::_ => -1
 |_::_,[]=>1
 |x::l,y::m=>if Op.bytesLess x y then -1 else if x==y then cmpL l m else 1
def bq(a b:Text):Int:=cmpL (Nm.labels a).reverse (Nm.labels b).reverse
theorem rev_at{α:Type}{l:List α}{k:Nat}(hk:k<l.length):∃ x,l[l.length-(k+1)]?=some x/\l.reverse.drop k=x::l.reverse.drop (k+1):=by
 have h1:l.length-(k+1)<l.length:=by omega
 refine⟨l[l.length-(k+1)],by simp[h1],?_⟩;rw[List.drop_eq_getElem_cons (by simpa using hk)]
 congr 1
 simp only[List.getElem_reverse]
 congr 1
 omega
theorem M6(t:Text):(Nm.labels t).length<=t.length+1:=by
 unfold Nm.labels;split
 ·simp
 ·exact M3 t
theorem xq(a b:Text)(ha:a.length<=1000)(hb:b.length<=1000):au E 20 [.str a,.str b] (· = .int .i64 (bq a b)):=by
 have hla:=M6 a;have mi:=M6 b;unfold bq;refine eP F20 ?_
 with_reducible refine aj (z7 _ ha) ?_
 refine gO F20 ?_
 with_reducible refine aj (z7 _ hb) ?_
 refine gO F20 ?_;generalize Nm.labels a=l at *;generalize Nm.labels b=m at *;refine aa.loop (κ:=Nat) ([4,7,8,9]++rg 14 32) (fun k=>[(7,.d (.int .i64 (k+1)))]) (fun _=>[]) (fun k=>k<=l.length/\k<=m.length/\cmpL l.reverse m.reverse=cmpL (l.reverse.drop k) (m.reverse.drop k)) (fun k=>l.length-k) 0 ⟨Nat.zero_le _,Nat.zero_le _,rfl⟩ ?_ ?_
 ·exact sZ
 ·intro k hk IH;refine aa.head ag F20 2000 ?_;(conv=>whnf);refine ar (fun h1=>?_) (fun h1=>?_)
  ·refine gO F20 ?_;refine ar (fun h2=>?_) (fun h2=>?_)
   ·have gw:k<l.length:=by simp at h1;omega
    have z8:k<m.length:=by simp at h2;omega
    obtain⟨x,hx,xr⟩:=rev_at gw;obtain⟨y,hy,s9⟩:=rev_at z8;have CL:IntKind.i64.wrap ((l.length:Int)-(k+1))=((l.length-(k+1):Nat):Int):=by rw[wrap64 (by omega) (by omega)];omega
    have Gv:IntKind.i64.wrap ((m.length:Int)-(k+1))=((m.length-(k+1):Nat):Int):=by rw[wrap64 (by omega) (by omega)];omega
    have hc:=hk.2.2;rw[xr,s9]at hc;refine gO F20 ?_;simp only[List.length_map];rw[CL];refine fu (.str x) (by omega) (rz hx) rfl ?_;refine gO F20 ?_;simp only[List.length_map];rw[Gv];refine fu (.str y) (by omega) (rz hy) rfl ?_;refine gO F20 ?_;refine ar (fun h3=>?_) (fun h3=>?_)
    ·refine gO F20 ?_;rw[hc,cmpL,if_pos h3]
    ·refine gO F20 ?_;refine ar (fun h4=>?_) (fun h4=>?_)
     ·refine gO F20 ?_;rw[hc,cmpL,if_neg (by rw[h3];decide),if_neg (by simp[h3]at h4;simpa using h4)]
     ·refine gO F20 ?_;refine aa.back (IH (k+1) ⟨by omega,by omega,by rw[hc,cmpL,if_neg (by rw[h3];decide),if_pos (by simpa [h3]using h4)]⟩ (by omega)) ?_;exact sZ
   ·have gw:k<l.length:=by simp at h1;omega
    have z8:k=m.length:=by simp at h2;omega
    obtain⟨x,hx,xr⟩:=rev_at gw;have hc:=hk.2.2;rw[xr,List.drop_of_length_le (l:=m.reverse) (by simp;omega),cmpL]at hc;refine gO F20 ?_;refine aO (by simp;omega) ?_;refine gO F20 ?_;refine aI (by simp;omega) ?_;refine gO F20 ?_;rw[hc]
  ·have gw:k=l.length:=by simp at h1;omega
   have hc:=hk.2.2;rw[List.drop_of_length_le (l:=l.reverse) (by simp;omega)]at hc;refine gO F20 ?_;refine aY ?_;refine gO F20 ?_;refine ar (fun h2=>?_) (fun h2=>?_)
   ·have z8:k<m.length:=by simp at h2;omega
    obtain⟨y,hy,s9⟩:=rev_at z8;rw[s9,cmpL]at hc;refine gO F20 ?_;rw[hc]
   ·have z8:k=m.length:=by simp at h2;omega
    rw[List.drop_of_length_le (l:=m.reverse) (by simp;omega),cmpL]at hc;refine gO F20 ?_;refine aO (by simp;omega) ?_;refine gO F20 ?_;rw[hc]
theorem M7(a b:Text)(ha:Nm.valid a=true)(hb:Nm.valid b=true):au E 227 [.str a,.str b] (· = .aJ [.int .i64 (bq a b),.int .i64 0]):=by
 have h1:=dK ha;have h2:=dK hb;refine eP Tryz.func227 ?_
 with_reducible refine aj (fF _ (by unfold maxLen;omega)) ?_
 refine gO Tryz.func227 ?_
 with_reducible refine aj (fF _ (by unfold maxLen;omega)) ?_
 refine gO Tryz.func227 ?_;rw[ha,hb];refine aO (by decide) ?_;refine gO Tryz.func227 ?_;refine aO (by decide) ?_;refine gO Tryz.func227 ?_
 with_reducible refine aj (xq _ _ (by omega) (by omega)) ?_
 refine gO Tryz.func227 ?_
 with_reducible rfl
def nY(a b:eD):Int:=if bq a.name b.name≠0 then bq a.name b.name else gF a.type b.type
theorem M8(a b:eD)(ha:Nm.valid a.name=true)(hb:Nm.valid b.name=true):au E 189 [a.enc,b.enc] (· = .int .i64 (nY a b)):=by
 refine eP Tryz.func189 ?_;repeat' (first|with_reducible(first|refine aj (M7 _ _ ha hb) ?_|refine bj (M7 _ _ ha hb) ?_|refine cY ?_|refine cN ?_|refine ar (fun _=>?_) (fun _=>?_))|refine gA Tryz.func189 ?_|refine gB ?_|refine gC ?_|with_reducible rfl)
 all_goals simp_all[nY,gF]
 all_goals omega
structure Signed.Aa(s:Signed):Prop where
 data:s.set.data.length<=2147483648
 sigs:s.sigs.length<=2147483648
structure aP.Aa(z:aP):Prop where
 ab:z.ab.length<=2147483648
 each:∀ s∈z.ab,s.Aa
def kP(l:List DV)(n:Int)(e:DV):Prop:=0<=n/\l[n.toNat]?=some e
theorem aC{l:List DV}{sz:Nat}{n:Int}{K:DV->Prop}{e:DV}(h:kP l n e)(hs:e.cells.length=sz)(k:K e):sx l sz n K:=fu e h.1 h.2 hs k
theorem aS{α:Type}{f:α->DV}{l:List α}{k:Nat}{x:α}(h:l[k]?=some x):kP (l.map f) (k:Int) (f x):=⟨by omega,rz h⟩
theorem ta{α:Type}{f:α->DV}{l:List α}{x:α}(h:l[0]?=some x):kP (l.map f) 0 (f x):=⟨by omega,by simp[h]⟩
theorem oY{α:Type}{f:α->DV}{l:List α}{k:Nat}{x:α}(h:l[k-1]?=some x)(h0:0<k)(hb:k<=4294967296):kP (l.map f) (IntKind.i64.wrap ((k:Int)-1)) (f x):=by
 have:IntKind.i64.wrap ((k:Int)-1)=((k-1:Nat):Int):=by rw[wrap64 (by omega) (by omega)];omega
 rw[this];exact aS h
theorem at_next{α:Type}{f:α->DV}{l:List α}{k:Nat}{x:α}(h:l[k+1]?=some x)(hb:k<=4294967296):kP (l.map f) (IntKind.i64.wrap ((k:Int)+1)) (f x):=by
 have:IntKind.i64.wrap ((k:Int)+1)=((k+1:Nat):Int):=by rw[wrap64 (by omega) (by omega)];omega
 rw[this];exact aS h
def chain{α:Type}(ok:α->Bool)(rel:α->α->Bool):Option α->List α->Bool
 |_,[]=>true
 |p,x::l=>ok x&&(match p with|none=>true|some q=>rel q x)&&chain ok rel (some x) l
def cW{α:Type}(l:List α)(k:Nat):Option α:=if k=0 then none else l[k-1]?
theorem CM{α:Type}{ok:α->Bool}{rel:α->α->Bool}{l:List α}{k:Nat}{x:α}(hx:l[k]?=some x):chain ok rel (cW l k) (l.drop k)=(ok x&&(match cW l k with|none=>true|some q=>rel q x)&&chain ok rel (cW l (k+1)) (l.drop (k+1))):=by
 have hk:=aX hx;rw[List.drop_eq_getElem_cons hk];have e1:l[k]=x:=by simpa [hk]using hx
 have e2:cW l (k+1)=some x:=by simp[cW,hx]
 rw[e1,e2];rfl
theorem xu{α:Type}{l:List α}{k:Nat}(h0:0<k)(hk:k<=l.length):∃ q,l[k-1]?=some q/\cW l k=some q:=by
 obtain⟨q,hq⟩:=bd (l:=l) (k:=k-1) (by omega);exact⟨q,hq,by simp[cW,hq];omega⟩
def gH(ad:Text)(g0 g:iS):Bool:=(g.aE==ad)&&decide (1<=g.key)&&decide (g.key<=1000000)&&decide (1<=g.pU)&&decide (g.pU<=3)&&(g.ru==g0.ru)&&(g.upto==g0.upto)&&decide (0<=g.ru)&&decide (g.ru<=g.upto)&&decide (g.upto<=20000000)
def kh(q g:iS):Bool:=decide (q.key<g.key)
def nZ(l:List iS)(ad:Text):Bool:=decide ((l.length:Int)<=6)&&chain (gH ad (l.headD CG)) kh none l
theorem M9{l:List iS}{k:Nat}(h:k<l.length):l[0]?=some (l.headD CG):=by
 cases l with
 |nil=>simp at h
 |cons x l=>rfl
theorem M'(l:List iS)(ad:Text):au E 193 [GF l,.str ad] (· = .bool (nZ l ad)):=by
 unfold nZ;have hg:∃ g0,g0=l.headD CG:=⟨_,rfl⟩;obtain⟨g0,hg⟩:=hg;rw[<- hg];refine eP F193 ?_;refine ar (fun h1=>?_) (fun h1=>?_)
 ·refine gO F193 ?_;simp only[List.length_map]at h1;rw[decide_eq_false (by simp at h1;omega),Bool.false_and]
 ·have h6:l.length<=6:=by simp at h1;omega
  rw[decide_eq_true (by omega),Bool.true_and];refine gO F193 ?_;refine aa.loop (κ:=Nat) ([4,5,6]++rg 10 82) (fun k=>[(5,.d (.int .i64 k))]) (fun _=>[]) (fun k=>k<=l.length/\chain (gH ad g0) kh none l=chain (gH ad g0) kh (cW l k) (l.drop k)) (fun k=>l.length-k) 0 ⟨Nat.zero_le _,rfl⟩ ?_ ?_
  ·exact sZ
  ·intro k hk IH;refine aa.head ag F193 2000 ?_;(conv=>whnf);refine ar (fun h5=>?_) (fun h5=>?_)
   ·have ai:k<l.length:=by simpa using h5
    obtain⟨x,hx⟩:=bd ai;have h0:=M9 ai;rw[<- hg]at h0;have bc:=CM (ok:=gH ad g0) (rel:=kh) hx;rw[<- hk.2]at bc;refine gO F193 ?_;refine aC (aS hx) rfl ?_;refine gO F193 ?_;refine aa.draw ag bN 57 2000 (by kernel_rfl) ?_;(conv=>whnf);rcases Nat.eq_zero_or_pos k with dh|dh
    ·have eE:cW l k=none:=by simp[cW,dh]
     rw[eE]at bc;dsimp only at bc;rw[Bool.and_true]at bc;repeat' (first|with_reducible(first|refine aC (aS hx) rfl ?_|refine aC (ta h0) rfl ?_|refine cY ?_|refine cN ?_|refine ar (fun _=>?_) (fun _=>?_))|refine gA F193 ?_|refine gB ?_|refine gC ?_|with_reducible rfl)
     all_goals first
      |(have dE : gH ad g0 x=false := by clear bc hk IH hg;simp_all[gH, kh, cW]<;>(intros;omega)
        rw[bc, dE, Bool.false_and]
        done)
      |(exfalso;clear bc hk IH hg;simp_all;done)
      |skip
     all_goals
      refine gO F193 ?_;refine aa.back (IH (k+1) ⟨by omega,by rw[bc,show gH ad g0 x=true by clear bc hk IH hg;simp_all[gH,kh,cW]<;>omega,Bool.true_and]⟩ (by omega)) ?_;exact sZ
    ·obtain⟨q,hq,eE⟩:=xu dh hk.1;rw[eE]at bc;repeat' (first|with_reducible(first|refine aC (aS hx) rfl ?_|refine aC (ta h0) rfl ?_|refine aC (oY hq dh (by omega)) rfl ?_|refine cY ?_|refine cN ?_|refine ar (fun _=>?_) (fun _=>?_))|refine gA F193 ?_|refine gB ?_|refine gC ?_|with_reducible rfl)
     all_goals first
      |(have dE : (gH ad g0 x && kh q x)=false := by clear bc hk IH hg;simp_all[gH, kh, cW]<;>(intros;omega)
        rw[bc, dE, Bool.false_and]
        done)
      |(exfalso;clear bc hk IH hg;simp_all;done)
      |skip
     all_goals
      refine gO F193 ?_;refine aa.back (IH (k+1) ⟨by omega,by rw[bc,show(gH ad g0 x&&kh q x)=true by clear bc hk IH hg;simp_all[gH,kh,cW]<;>omega,Bool.true_and]⟩ (by omega)) ?_;exact sZ
   ·have aG:l.length<=k:=by simpa using h5
    refine gO F193 ?_;rw[hk.2,List.drop_of_length_le aG];rfl
def vy(t:Int)(ad:Bool):Bool:=if ad then t != 3&&t != 6 else t != 4&&t != 7
theorem Na(t:Int)(ad:Bool):au E 190 [.int .i64 t,.bool ad] (· = .bool (vy t ad)):=by
 refine eP Tryz.func190 ?_;repeat' (first|with_reducible(first|refine cY ?_|refine cN ?_|refine ar (fun _=>?_) (fun _=>?_))|refine gA Tryz.func190 ?_|refine gB ?_|refine gC ?_|with_reducible rfl)
 all_goals simp_all[vy]
structure aM where
 name:Text
 type:Int
 deriving DecidableEq
@[reducible] def aM.enc (q : aM) : DV := .agg [.str q.name, .int .i64 q.type]
def cC(q:aM)(s:Signed):Bool:=s.set.name==q.name&&s.set.type==q.type
def aq(l:List Signed)(q:aM):Int:=match l.findIdx? (cC q)with
 |some i=>i
 |none => -1
theorem Nb{l:List Signed}{q:aM}{k:Nat}{x:Signed}(h:∀ j y,j<k->l[j]?=some y->cC q y=false)(hx:l[k]?=some x)(hq:cC q x=true):aq l q=k:=by
 have:l.findIdx? (cC q)=some k:=by
  rw[List.findIdx?_eq_some_iff_getElem];have hk:=aX hx;refine⟨hk,?_,fun j hj=>?_⟩
  ·have:l[k]=x:=by simpa [hk]using hx
   rw[this];exact hq
  ·have:=h j l[j] hj (by simp);rw[this];decide
 rw[aq,this]
theorem Wg{l:List Signed}{q:aM}(h:∀ j y,j<l.length->l[j]?=some y->cC q y=false):aq l q = -1:=by
 have:l.findIdx? (cC q)=none:=by
  rw[List.findIdx?_eq_none_iff];intro x hx;obtain⟨j,hj⟩:=List.getElem?_of_mem hx;exact h j x (aX hj) hj
 rw[aq,this]
theorem vz(z:aP)(q:aM)(hl:z.ab.length<=2147483648):au E 22 [z.enc,q.enc] (· = .int .i64 (aq z.ab q)):=by
 obtain⟨ad,l⟩:=z;simp only at hl ⊢;refine eP Tryz.func22 ?_;refine aa.loop (κ:=Nat) (rg 4 32) (fun k=>[(5,.d (.int .i64 k))]) (fun _=>[]) (fun k=>k<=l.length/\∀ j y,j<k->l[j]?=some y->cC q y=false) (fun k=>l.length-k) 0 ⟨Nat.zero_le _,fun j y h=>by omega⟩ ?_ ?_
 ·exact sZ
 ·intro k hk IH;refine aa.head ag Tryz.func22 2000 ?_;(conv=>whnf);refine ar (fun h5=>?_) (fun h5=>?_)
  ·have ai:k<l.length:=by simpa using h5
   obtain⟨x,hx⟩:=bd ai;refine gO Tryz.func22 ?_;refine aa.draw ag bN 22 2000 (by kernel_rfl) ?_;(conv=>whnf);repeat' (first|with_reducible(first|refine aC (aS hx) rfl ?_|refine cY ?_|refine cN ?_|refine ar (fun _=>?_) (fun _=>?_))|refine gA Tryz.func22 ?_|refine gB ?_|refine gC ?_|with_reducible rfl)
   all_goals first
    |(rw[Nb hk.2 hx (by simp_all[cC])];done)
    |skip
   all_goals
    refine gO Tryz.func22 ?_;refine aa.back (IH (k+1) ⟨by omega,fun j y hj hy=>?_⟩ (by omega)) ?_
    ·rcases Nat.lt_or_ge j k with h|h
     ·exact hk.2 j y h hy
     ·obtain rfl:j=k:=by omega
      rw[hx]at hy;cases hy;simp_all[cC]
    ·exact sZ
  ·have aG:k=l.length:=by simp at h5;omega
   subst aG;refine gO Tryz.func22 ?_;rw[Wg hk.2]
def xv(s:Signed):Bool := !(decide ((s.set.data.length:Int)>20)) && !(decide ((s.sigs.length:Int)>20))
def xw(z:aP):Bool:=(z.ab.take 101).all xv&&decide ((z.ab.length:Int)<=100)
theorem Wh(z:aP):au E 30 [z.enc] (· = .bool (xw z)):=by
 obtain⟨ad,l⟩:=z;unfold xw;simp only;refine eP F30 ?_;refine aa.loop (κ:=Nat) (rg 2 32) (fun k=>[(3,.d (.int .i64 k))]) (fun _=>[]) (fun k=>k<=l.length/\k<=101/\(l.take k).all xv=true) (fun k=>l.length-k) 0 ⟨Nat.zero_le _,by omega,rfl⟩ ?_ ?_
 ·exact sZ
 ·intro k hk IH;refine aa.head ag F30 2000 ?_;(conv=>whnf);refine ar (fun h5=>?_) (fun h5=>?_)
  ·have ai:k<l.length:=by simpa using h5
   obtain⟨x,hx⟩:=bd ai;refine gO F30 ?_;refine ar (fun h6=>?_) (fun h6=>?_)
   ·have Nc:k<=100:=by simp at h6;omega
    have eK:(l.take 101)[k]?=some x:=by rw[List.getElem?_take,if_pos (by omega)];exact hx
    refine gO F30 ?_;repeat' (first|with_reducible(first|refine aC (aS hx) rfl ?_|refine cY ?_|refine cN ?_|refine ar (fun _=>?_) (fun _=>?_))|refine gA F30 ?_|refine gB ?_|refine gC ?_|with_reducible rfl)
    all_goals first
     |(rw[iU eK (by simp_all[xv]),Bool.false_and];done)
     |skip
    all_goals
     refine gO F30 ?_;refine aa.back (IH (k+1) ⟨by omega,by omega,jC hk.2.2 hx (by simp_all[xv])⟩ (by omega)) ?_;exact sZ
   ·have Nc:k=101:=by simp at h6;omega
    subst Nc;refine gO F30 ?_;rw[hk.2.2,Bool.true_and];simp
  ·have aG:k=l.length:=by simp at h5;omega
   refine gO F30 ?_;refine aY ?_;refine gO F30 ?_;rw[show(l.take 101).all xv=true by rw[List.take_of_length_le (by omega)];exact nX hk.2.2 (by omega),Bool.true_and];simp
def rH(z:aP):Bool := !(decide (aq z.ab ⟨z.ad,4⟩<0)) && !(decide (aq z.ab ⟨z.ad,2⟩<0))&&z.ab.all fun s=>vy s.set.type (s.set.name==z.ad)
theorem Nd(z:aP)(hl:z.ab.length<=2147483648):au E 121 [z.enc] (· = .bool (rH z)):=by
 obtain⟨ad,l⟩:=z;simp only at hl;have h1:=vz ⟨ad,l⟩ ⟨ad,4⟩ hl;have h2:=vz ⟨ad,l⟩ ⟨ad,2⟩ hl;refine eP F121 ?_;repeat' (first|with_reducible(first|refine aj (h1) ?_|refine bj (h1) ?_|refine aj (h2) ?_|refine bj (h2) ?_|refine cY ?_|refine cN ?_|refine ar (fun _=>?_) (fun _=>?_))|refine gA F121 ?_|refine gB ?_|refine gC ?_|with_reducible rfl)
 all_goals try (simp_all[rH];done)
 all_goals
  rename_i h3 h4;simp only[rH,h3,h4,Bool.not_false,Bool.true_and];refine gO F121 ?_;refine aa.loop (κ:=Nat) ([2,3]++rg 18 26) (fun k=>[(3,.d (.int .i64 k))]) (fun _=>[]) (fun k=>k<=l.length/\(l.take k).all (fun s=>vy s.set.type (s.set.name==ad))=true) (fun k=>l.length-k) 0 ⟨Nat.zero_le _,rfl⟩ ?_ ?_
  ·exact sZ
  ·intro k hk IH;refine aa.head ag F121 2000 ?_;(conv=>whnf);refine ar (fun h5=>?_) (fun h5=>?_)
   ·have ai:k<l.length:=by simpa using h5
    obtain⟨x,hx⟩:=bd ai;refine gO F121 ?_;refine aa.draw ag bN 19 2000 (by kernel_rfl) ?_;(conv=>whnf);repeat' (first|with_reducible(first|refine aC (aS hx) rfl ?_|refine aj (Na _ _) ?_|refine bj (Na _ _) ?_|refine cY ?_|refine cN ?_|refine ar (fun _=>?_) (fun _=>?_))|refine gA F121 ?_|refine gB ?_|refine gC ?_|with_reducible rfl)
    all_goals first
     |(rw[iU hx (by simp_all)];done)
     |skip
    all_goals
     refine gO F121 ?_;refine aa.back (IH (k+1) ⟨by omega,jC hk.2 hx (by simp_all)⟩ (by omega)) ?_;exact sZ
   ·have aG:l.length<=k:=by simpa using h5
    refine gO F121 ?_;rw[nX hk.2 aG]
def mo:Text->Option Text->List Signed->Bool
 |_,_,[]=>true
 |al,p,s::l=>(match p with
   |none=>true
   |some n=>if n==s.set.name then !((s.set.name != []&&s.set.type==3)||(s.set.name != []&&(s.set.name==if s.set.type==3 then s.set.name else al)&&s.set.type != 3&&s.set.type != 8))else true)
  && mo (if s.set.type==3 then s.set.name else al) (some s.set.name) l
theorem Wi{al : Text}{l : List Signed}{k : Nat}{x : Signed}(hx : l[k]?=some x) : mo al (cW (l.map (·.set.name)) k) (l.drop k)=((match cW (l.map (·.set.name)) k with
      |none => true
      |some n => if n == x.set.name then !((x.set.name != [] && x.set.type == 3) || (x.set.name != [] && (x.set.name == if x.set.type == 3 then x.set.name else al) && x.set.type != 3 && x.set.type != 8))else true)
  && mo (if x.set.type==3 then x.set.name else al) (cW (l.map (·.set.name)) (k+1)) (l.drop (k+1))):=by
 have hk:=aX hx;rw[List.drop_eq_getElem_cons hk];have e1:l[k]=x:=by simpa [hk]using hx
 have e2:cW (l.map (·.set.name)) (k+1)=some x.set.name:=by simp[cW,hx]
 rw[e1,e2];rfl
theorem Nf(z:aP)(hl:z.ab.length<=2147483648):au E 122 [z.enc] (· = .bool (mo [] none z.ab)):=by
 obtain⟨ad,l⟩:=z;simp only at hl ⊢;refine eP F122 ?_;refine aa.loop (κ:=Nat × Text) [2,3,4,5,6,7,8,9,10,11,12,13,14,15,16,17,18,19,20,21,22,23,24,25,26,27,28,29,30,31,32,33,34,35,36,37,38,39,40,41,42,43,44,45,46,47,48,49,50,51,52,53,54,55,56,57,58,59,60,61,62,63,64,65,66,67,68,69,70,71,72,73,74,75,76,77,78,79,80,81,82,83,84,85] (fun k=>[(4,.d (.int .i64 k.1)),(3,.d (.str k.2))]) (fun _=>[]) (fun k=>k.1<=l.length/\mo [] none l=mo k.2 (cW (l.map (·.set.name)) k.1) (l.drop k.1)) (fun k=>l.length-k.1) (0,[]) ⟨Nat.zero_le _,rfl⟩ ?_ ?_
 ·exact sZ
 ·rintro⟨k,al⟩ hk IH;simp only at hk;refine aa.head ag F122 2000 ?_;(conv=>whnf);refine ar (fun h5=>?_) (fun h5=>?_)
  ·have ai:k<l.length:=by simpa using h5
   obtain⟨x,hx⟩:=bd ai;have bc:=Wi (al:=al) hx;rw[<- hk.2]at bc;refine gO F122 ?_;refine aC (aS hx) rfl ?_;refine gO F122 ?_;refine ar (fun h6=>?_) (fun h6=>?_);all_goals
    rcases Nat.eq_zero_or_pos k with dh|dh
    ·have eE:cW (l.map (·.set.name)) k=none:=by simp[cW,dh]
     rw[eE]at bc;refine gO F122 ?_;repeat' (first|with_reducible(first|refine aC (aS hx) rfl ?_|refine cY ?_|refine cN ?_|refine ar (fun _=>?_) (fun _=>?_))|refine gA F122 ?_|refine gB ?_|refine gC ?_|with_reducible rfl)
     refine gO F122 ?_;refine aa.draw ag bN 20 2000 (by kernel_rfl) ?_;(conv=>whnf);repeat' (first|with_reducible(first|refine aC (aS hx) rfl ?_|refine cY ?_|refine cN ?_|refine ar (fun _=>?_) (fun _=>?_))|refine gA F122 ?_|refine gB ?_|refine gC ?_|with_reducible rfl)
     all_goals first
      |(exfalso;clear bc hk IH;simp_all;done)
      |skip
     all_goals
      refine gO F122 ?_;refine aa.back (IH (k+1,if x.set.type==3 then x.set.name else al) ⟨by simp only;omega,by simp only;rw[bc];simp⟩ (by simp only;omega)) ?_;(conv=>whnf);repeat (first|exact trivial|(refine And.intro (by first|with_reducible rfl|exact congrArg (DV.int .i64) (by omega)|exact congrArg DV.str (by simp[h6])|exact congrArg (DV.int .i64) (wrap64 (by omega) (by omega))|exact congrArg (DV.int .i64) ((wrap64 (by omega) (by omega)).trans (by omega))) ?_;conv=>whnf))
    ·obtain⟨q,hq,-⟩:=xu dh hk.1;have eE:cW (l.map (·.set.name)) k=some q.set.name:=by simp[cW,hq];omega
     rw[eE]at bc;refine gO F122 ?_;repeat' (first|with_reducible(first|refine aC (aS hx) rfl ?_|refine aC (oY hq dh (by omega)) rfl ?_|refine cY ?_|refine cN ?_|refine ar (fun _=>?_) (fun _=>?_))|refine gA F122 ?_|refine gB ?_|refine gC ?_|with_reducible rfl)
     refine gO F122 ?_;refine aa.draw ag bN 20 2000 (by kernel_rfl) ?_;(conv=>whnf);repeat' (first|with_reducible(first|refine aC (aS hx) rfl ?_|refine aC (oY hq dh (by omega)) rfl ?_|refine cY ?_|refine cN ?_|refine ar (fun _=>?_) (fun _=>?_))|refine gA F122 ?_|refine gB ?_|refine gC ?_|with_reducible rfl)
     all_goals first
      |(rw[bc];clear bc hk IH;simp_all;done)
      |(exfalso;clear bc hk IH;simp_all;done)
      |skip
     all_goals
      refine gO F122 ?_;refine aa.back (IH (k+1,if x.set.type==3 then x.set.name else al) ⟨by simp only;omega,by simp only;rw[bc];clear bc hk IH;simp_all⟩ (by simp only;omega)) ?_;(conv=>whnf);repeat (first|exact trivial|(refine And.intro (by first|with_reducible rfl|exact congrArg (DV.int .i64) (by omega)|exact congrArg DV.str (by simp[h6])|exact congrArg (DV.int .i64) (wrap64 (by omega) (by omega))|exact congrArg (DV.int .i64) ((wrap64 (by omega) (by omega)).trans (by omega))) ?_;conv=>whnf))
  ·have aG:l.length<=k:=by simpa using h5
   refine gO F122 ?_;rw[hk.2,List.drop_of_length_le aG];rfl
def iJ(ad:Text)(s:Signed):Bool:=s.set.type==2&&s.set.name != ad
def bO(ad:Text)(l:List Signed):List Text:=(l.filter (iJ ad)).map (·.set.name)
theorem Wj{ad:Text}{l:List Signed}{k:Nat}{x:Signed}(h:l[k]?=some x):bO ad (l.take (k+1))=bO ad (l.take k)++(if iJ ad x then[x.set.name]else[]):=by
 rw[dW h];simp only[bO,List.filter_append,List.map_append]
 congr 1
 cases hc:iJ ad x<;>simp[hc]
theorem CN(ad:Text)(l:List Signed):(bO ad l).length<=l.length:=by
 simp only[bO,List.length_map];exact List.length_filter_le _ _
theorem n4{ad:Text}{l:List Signed}{c:Text}(h:c∈bO ad l):∃ s∈l,s.set.name=c/\iJ ad s=true:=by
 simp only[bO,List.mem_map,List.mem_filter]at h;obtain⟨s,⟨h1,h2⟩,h3⟩:=h;exact⟨s,h1,h3,h2⟩
theorem Ng(z:aP)(hl:z.ab.length<=1000000000):au E 214 [z.enc] (· = .sl ((bO z.ad z.ab).map .str)):=by
 obtain⟨ad,l⟩:=z;simp only at hl ⊢;refine eP Tryz.func214 ?_;refine aa.jV 3 (9,1) (by decide) rfl ?_;(conv=>whnf);refine aa.loop (κ:=Nat) (rg 3 31) (fun k=>[(4,.d (.int .i64 k)),(3,.own 1 1)]) (fun k=>[(1,.arr 1 (9,1) ((bO ad (l.take k)).map .str))]) (fun k=>k<=l.length) (fun k=>l.length-k) 0 (Nat.zero_le _) ?_ ?_
 ·(conv=>whnf);repeat (first|exact trivial|(refine And.intro (by first|with_reducible rfl|exact congrArg (DV.int .i64) (by omega)|exact rfl|exact congrArg (DV.int .i64) (wrap64 (by omega) (by omega))|exact congrArg (DV.int .i64) ((wrap64 (by omega) (by omega)).trans (by omega))) ?_;conv=>whnf))
 ·intro k hk IH;have eo:=CN ad (l.take k);rw[List.length_take]at eo;refine aa.head ag Tryz.func214 2000 ?_;(conv=>whnf);refine ar (fun h5=>?_) (fun h5=>?_)
  ·have ai:k<l.length:=by simpa using h5
   obtain⟨x,hx⟩:=bd ai;have bc:=Wj (ad:=ad) hx;refine gO Tryz.func214 ?_;repeat' (first|with_reducible(first|refine aC (aS hx) rfl ?_|refine cY ?_|refine cN ?_|refine ar (fun _=>?_) (fun _=>?_))|refine gA Tryz.func214 ?_|refine gB ?_|refine gC ?_|with_reducible rfl)
   all_goals first
    |(refine bA ⟨by simp;omega, by simp[DV.cells]⟩ ?_
      have hc : iJ ad x=true := by simp_all[iJ])
    |(have hc:iJ ad x=false:=by simp_all[iJ])
   all_goals
    rw[hc]at bc;refine gO Tryz.func214 ?_;refine aa.back (IH (k+1) (by omega) (by omega)) ?_;(conv=>whnf);repeat (first|exact trivial|(refine sI ?_;conv=>whnf))
    refine And.intro (by rw[bc];simp) ?_;exact sZ
  ·have aG:l.length<=k:=by simpa using h5
   refine gO Tryz.func214 ?_;rw[List.take_of_length_le aG]
def kQ(out:List Text)(c:Text):List Text:=match out.getLast? with
 |none=>out++[c]
 |some d=>if Nm.under c d then out else out++[c]
def fy(l:List Text):List Text:=l.foldl kQ []
theorem Wk{l:List Text}{k:Nat}{x:Text}(h:l[k]?=some x):fy (l.take (k+1))=kQ (fy (l.take k)) x:=by
 rw[dW h,fy,List.foldl_append];rfl
theorem Wl(o:List Text)(c:Text):(kQ o c).length<=o.length+1:=by
 unfold kQ;split
 ·simp
 ·split<;>simp
theorem Nh(l:List Text):(fy l).length<=l.length:=by
 have:∀ (l o:List Text),(l.foldl kQ o).length<=o.length+l.length:=by
  intro l
  induction l with
  |nil=>simp
  |cons x l ih=>intro o;have:=ih (kQ o x);have:=Wl o x;simp;omega
 have:=this l []
 simpa [fy]using this
theorem xx{l:List Text}:∀ c∈fy l,c∈l:=by
 have:∀ (l o:List Text),∀ c∈l.foldl kQ o,c∈o\/c∈l:=by
  intro l
  induction l with
  |nil=>intro o c h;exact .inl h
  |cons x l ih =>
   intro o c h;rcases ih (kQ o x) c h with h|h
   ·have:c∈o\/c=x:=by
     unfold kQ at h;split at h
     ·simpa using h
     ·split at h
      ·exact .inl h
      ·simpa using h
    rcases this with h|h
    ·exact .inl h
    ·exact .inr (by simp[h])
   ·exact .inr (List.mem_cons_of_mem _ h)
 intro c h;rcases this l [] c h with h|h
 ·simp at h
 ·exact h
theorem Wm(z:aP)(hl:z.ab.length<=1000000000)(hn:∀ s∈z.ab,s.set.name.length<=1000):au E 228 [z.enc] (· = .sl ((fy (bO z.ad z.ab)).map .str)):=by
 have dS:∀ c∈bO z.ad z.ab,c.length<=1000:=fun c hc=>by
  obtain⟨s,h1,rfl,-⟩:=n4 hc;exact hn s h1
 have eo:=CN z.ad z.ab;refine eP F228 ?_
 with_reducible refine aj (Ng z hl) ?_
 refine gO F228 ?_;generalize bO z.ad z.ab=l at *;refine aa.jV 4 (9,1) (by decide) rfl ?_;(conv=>whnf);refine aa.loop (κ:=Nat) ([4,5]++rg 8 30) (fun k=>[(5,.d (.int .i64 k)),(4,.own 1 1)]) (fun k=>[(1,.arr 1 (9,1) ((fy (l.take k)).map .str))]) (fun k=>k<=l.length) (fun k=>l.length-k) 0 (Nat.zero_le _) ?_ ?_
 ·(conv=>whnf);repeat (first|exact trivial|(refine And.intro (by first|with_reducible rfl|exact congrArg (DV.int .i64) (by omega)|exact rfl|exact congrArg (DV.int .i64) (wrap64 (by omega) (by omega))|exact congrArg (DV.int .i64) ((wrap64 (by omega) (by omega)).trans (by omega))) ?_;conv=>whnf))
 ·intro k hk IH;have GW:=Nh (l.take k);rw[List.length_take]at GW;have Wn:∀ c∈fy (l.take k),c.length<=1000:=fun c hc=>dS c (List.mem_of_mem_take (xx c hc));refine aa.head ag F228 2000 ?_;(conv=>whnf);refine ar (fun h5=>?_) (fun h5=>?_)
  ·have ai:k<l.length:=by simpa using h5
   obtain⟨x,hx⟩:=bd ai;have iT:=dS x (List.mem_of_getElem? hx);have bc:=Wk hx;generalize fy (l.take k)=o at *;rcases List.eq_nil_or_concat o with rfl|⟨i,d,rfl⟩
   ·refine gO F228 ?_;refine aa.draw ag bN 17 2000 (by kernel_rfl) ?_;(conv=>whnf);refine aI (by simp) ?_;refine gD ?_;refine gS ?_;refine gO F228 ?_;refine bp ?_;refine gO F228 ?_;refine aC (aS hx) rfl ?_;refine gO F228 ?_;refine bA ⟨by simp,by simp[DV.cells]⟩ ?_;refine gO F228 ?_;refine aa.back (IH (k+1) (by omega) (by omega)) ?_;(conv=>whnf);repeat (first|exact trivial|(refine sI ?_;conv=>whnf))
    refine And.intro (by rw[bc];simp[kQ]) ?_;exact sZ
   ·simp only[List.concat_eq_append]at *;have hw:IntKind.i64.wrap ((((i++[d]).map DV.str).length:Int)-1)=(i.length:Int):=by
     rw[wrap64 (by simp) (by simp;simp at GW;omega)];simp
    have dM:((i++[d]).map DV.str)[((i.length:Nat):Int).toNat]?=some (.str d):=by simp
    have s6:=Wn d (by simp);have aV:kQ (i++[d]) x=if Nm.under x d then i++[d]else i++[d]++[x]:=by simp[kQ]
    rw[aV]at bc;refine gO F228 ?_;refine aa.draw ag bN 17 2000 (by kernel_rfl) ?_;(conv=>whnf);refine aO (by simp;omega) ?_;refine gD ?_;refine aC (aS hx) rfl ?_;refine gD ?_;rw[hw];refine bA ⟨by omega,by simp;omega⟩ ?_;refine gD ?_;refine fu (.str d) (by omega) (by simp) rfl ?_;refine gD ?_
    with_reducible refine bj (pZ _ _ iT s6) ?_
    refine gD ?_;cases hu:Nm.under x d
    ·rw[hu]at bc;refine gS ?_;refine gO F228 ?_;refine aI (by decide) ?_;refine gO F228 ?_;refine aC (aS hx) rfl ?_;refine gO F228 ?_;refine bA ⟨by simp;simp at GW;omega,by simp[DV.cells]⟩ ?_;refine gO F228 ?_;refine aa.back (IH (k+1) (by omega) (by omega)) ?_;(conv=>whnf);repeat (first|exact trivial|(refine sI ?_;conv=>whnf))
     refine And.intro (by rw[bc];simp) ?_;exact sZ
    ·rw[hu]at bc;refine gS ?_;refine gO F228 ?_;refine aO (by decide) ?_;refine gO F228 ?_;refine aa.back (IH (k+1) (by omega) (by omega)) ?_;(conv=>whnf);repeat (first|exact trivial|(refine sI ?_;conv=>whnf))
     refine And.intro (by rw[bc];simp) ?_;exact sZ
  ·have aG:l.length<=k:=by simpa using h5
   refine gO F228 ?_;rw[List.take_of_length_le aG]
def eR(db:List Text)(n:Text)(k:Nat):Nat:=k+((db.drop k).takeWhile fun c=>decide (bq c n<=0)).length
theorem Wo{db:List Text}{n c:Text}{k:Nat}(h:db[k]?=some c)(ho:bq c n<=0):eR db n k=eR db n (k+1):=by
 have hk:=aX h;have e1:db[k]=c:=by simpa [hk]using h
 unfold eR;rw[List.drop_eq_getElem_cons hk,e1,List.takeWhile_cons_of_pos (by simpa using ho)];simp;omega
theorem Wp{db:List Text}{n c:Text}{k:Nat}(h:db[k]?=some c)(ho:¬ bq c n<=0):eR db n k=k:=by
 have hk:=aX h;have e1:db[k]=c:=by simpa [hk]using h
 unfold eR;rw[List.drop_eq_getElem_cons hk,e1,List.takeWhile_cons_of_neg (by simpa using ho)];simp
theorem Wq{db:List Text}{n:Text}{k:Nat}(h:db.length<=k):eR db n k=k:=by
 unfold eR;rw[List.drop_of_length_le h];simp
theorem CO{db:List Text}{n:Text}{k:Nat}(h:k<=db.length):eR db n k<=db.length:=by
 unfold eR;have h1:((db.drop k).takeWhile fun c=>decide (bq c n<=0)).length<=(db.drop k).length:=(List.takeWhile_prefix _).length_le;simp at h1 ⊢;omega
def mq(db:List Text)(n:Text)(k:Nat):Text:=if k=0 then[]else match db[k-1]? with
 |some c=>if Nm.under n c then c else[]
 |none=>[]
def ng(db:List Text):Nat->List Text->List Text
 |_,[]=>[]
 |k,n::ns=>mq db n (eR db n k)::ng db (eR db n k) ns
theorem Ni(db:List Text):∀ (k:Nat) (ns:List Text),(ng db k ns).length=ns.length
 |_,[]=>rfl
 |k,n::ns=>by simp[ng,Ni db _ ns]
def je(z:aP):List Text:=ng (fy (bO z.ad z.ab)) 0 (z.ab.map (·.set.name))
theorem tc(z:aP):(je z).length=z.ab.length:=by simp[je,Ni]
theorem nh{α:Type}{B:List α}{e x:α}{i n:Nat}(hB:B.length=n)(h:B[i]?=some x):(B.take i++List.replicate (n-i) e).set i x=B.take (i+1)++List.replicate (n-(i+1)) e:=by
 have hi:=aX h;rw[dW h,List.set_append_right _ _ (by simp;omega)];simp only[List.length_take,List.append_assoc]
 congr 1
 rw[show n-i=(n-(i+1))+1 by omega,List.replicate_succ];simp[Nat.min_eq_left (Nat.le_of_lt hi)]
theorem CP{α:Type}{B:List α}{e:α}{i n:Nat}(hB:B.length=n)(h:B[i]?=some e):B.take i++List.replicate (n-i) e=B.take (i+1)++List.replicate (n-(i+1)) e:=by
 have hi:=aX h;rw[dW h,List.append_assoc]
 congr 1
 rw[show n-i=(n-(i+1))+1 by omega,List.replicate_succ];rfl
theorem ni{α:Type}{B:List α}{e:α}{i n:Nat}(hB:B.length=n)(hi:i<n):(B.take i++List.replicate (n-i) e)[i]?=some e:=by
 rw[List.getElem?_append_right (by simp;omega)];simp only[List.length_take];rw[show i-min i B.length=0 by omega];rw[List.getElem?_replicate,if_pos (by omega)]
theorem Nj(z:aP)(hl:z.ab.length<=1000000)(hn:∀ s∈z.ab,s.set.name.length<=1000):au E 191 [z.enc] (· = .sl ((je z).map .str)):=by
 have dS:∀ c∈fy (bO z.ad z.ab),c.length<=1000:=fun c hc=>by
  obtain⟨s,h1,rfl,-⟩:=n4 (xx c hc);exact hn s h1
 have eo:(fy (bO z.ad z.ab)).length<=z.ab.length:=Nat.le_trans (Nh _) (CN _ _);have eS:=tc z;have jz:je z=ng (fy (bO z.ad z.ab)) 0 (z.ab.map (·.set.name)):=rfl;generalize je z=B at *;refine eP F191 ?_
 with_reducible refine aj (Wm z (by omega) hn) ?_
 refine gO F191 ?_;generalize fy (bO z.ad z.ab)=db at *;obtain⟨ad,l⟩:=z;simp only at *;refine bA ?_ ?_
 ·simp;omega
 ·refine gO F191 ?_;refine aa.loop (κ:=Nat × Nat) [5,6,7,14,15,16,17,18,19,20,21,22,23,24,25,26,27,28,29,30,31,32,33,34,35,36,37,38,39,40,41,42,43,44,45,46,47,48,49,50,51,52,53,54,55,56,57,58,59,60,61] (fun k=>[(6,.d (.int .i64 k.1)),(5,.d (.int .i64 k.2)),(4,.own 1 0)]) (fun k=>[(1,.arr 0 (9,1) ((B.take k.1++List.replicate (l.length-k.1) []).map .str))]) (fun k=>k.1<=l.length/\k.2<=db.length/\B.drop k.1=ng db k.2 ((l.drop k.1).map (·.set.name))) (fun k=>l.length-k.1) (0,0) ⟨Nat.zero_le _,Nat.zero_le _,by simpa using jz⟩ ?_ ?_
  ·(conv=>whnf);repeat (first|exact trivial|(refine sI ?_;conv=>whnf))
   refine And.intro (by simp) ?_;exact sZ
  ·rintro⟨i,k⟩ hk IH;simp only at hk;refine aa.head ag F191 2000 ?_;(conv=>whnf);refine ar (fun h5=>?_) (fun h5=>?_)
   ·have ai:i<l.length:=by simpa using h5
    obtain⟨x,hx⟩:=bd ai;have iT:=hn x (List.mem_of_getElem? hx);have Ab:(l.drop i).map (·.set.name)=x.set.name::(l.drop (i+1)).map (·.set.name):=by
     have e1:l[i]=x:=by simpa [ai]using hx
     rw[List.drop_eq_getElem_cons ai,e1];rfl
    obtain⟨-,pV,oZ⟩:=hk;rw[Ab,ng]at oZ;have dR:B[i]?=some (mq db x.set.name (eR db x.set.name k)):=by
     have:=congrArg (fun l=>l[0]?) oZ
     simpa using this
    have fc:B.drop (i+1)=ng db (eR db x.set.name k) ((l.drop (i+1)).map (·.set.name)):=by
     have:=congrArg List.tail oZ
     simpa using this
    have p7:=CO (n:=x.set.name) pV;refine gO F191 ?_;refine aC (aS hx) rfl ?_;refine gO F191 ?_;refine aa.loop (κ:=Nat) ([5]++rg 28 15) (fun j=>[(5,.d (.int .i64 j))]) (fun _=>[]) (fun j=>j<=db.length/\eR db x.set.name k=eR db x.set.name j) (fun j=>db.length-j) k ⟨pV,rfl⟩ ?_ ?_
    ·exact sZ
    ·intro j hj xy;have leave:∀ (CQ:eR db x.set.name k=j),True:=fun _=>trivial;refine aa.head ag F191 2000 ?_;(conv=>whnf);refine ar (fun h6=>?_) (fun h6=>?_)
     ·have ki:j<db.length:=by simpa using h6
      obtain⟨c,hc⟩:=bd ki;have Wr:=dS c (List.mem_of_getElem? hc);refine gO F191 ?_;refine aC (aS hc) rfl ?_;refine gO F191 ?_
      with_reducible refine aj (xq _ _ Wr iT) ?_
      refine gO F191 ?_;refine ar (fun h7=>?_) (fun h7=>?_)
      ·refine gO F191 ?_;refine aa.back (xy (j+1) ⟨by omega,by rw[hj.2];exact Wo hc (by simpa using h7)⟩ (by omega)) ?_;exact sZ
      ·have GX:eR db x.set.name k=j:=by rw[hj.2];exact Wp hc (by simpa using h7)
       rw[GX]at dR fc;refine gO F191 ?_;rcases Nat.eq_zero_or_pos j with rI|rI
       ·have iA:mq db x.set.name j=[]:=by simp[mq,rI]
        rw[iA]at dR;refine aO (by simp;omega) ?_;refine gO F191 ?_;refine aY ?_;refine gO F191 ?_;refine aa.back (IH (i+1,j) ⟨by simp only;omega,by simp only;omega,fc⟩ (by simp only;omega)) ?_;(conv=>whnf);repeat (first|exact trivial|(refine sI ?_;conv=>whnf))
        refine And.intro (by rw[CP eS dR]) ?_;exact sZ
       ·obtain⟨c,hc⟩:=bd (l:=db) (k:=j-1) (by omega);have GY:=dS c (List.mem_of_getElem? hc);have iA:mq db x.set.name j=if Nm.under x.set.name c then c else[]:=by simp[mq,hc];omega
        rw[iA]at dR;refine aI (by simp;omega) ?_;refine gO F191 ?_;refine aC (oY hc rI (by omega)) rfl ?_;refine gO F191 ?_
        with_reducible refine aj (pZ _ _ iT GY) ?_
        refine gO F191 ?_;cases hu:Nm.under x.set.name c
        ·rw[hu]at dR;refine aY ?_;refine gO F191 ?_;refine aa.back (IH (i+1,j) ⟨by simp only;omega,by simp only;omega,fc⟩ (by simp only;omega)) ?_;(conv=>whnf);repeat (first|exact trivial|(refine sI ?_;conv=>whnf))
         refine And.intro (by rw[CP eS (by simpa using dR)]) ?_;exact sZ
        ·rw[hu]at dR;refine bp ?_;refine gO F191 ?_;refine aC (oY hc rI (by omega)) rfl ?_;refine gO F191 ?_;refine bA ⟨by omega,by simp;omega⟩ ?_;refine gO F191 ?_;refine fu (.str []) (by omega) (by simp only[Int.toNat_natCast,List.getElem?_map];rw[ni eS ai];rfl) rfl ?_;refine gO F191 ?_;refine aa.back (IH (i+1,j) ⟨by simp only;omega,by simp only;omega,fc⟩ (by simp only;omega)) ?_;(conv=>whnf);repeat (first|exact trivial|(refine sI ?_;conv=>whnf))
         refine And.intro (by rw[<- nh (e:=[]) eS (by simpa using dR)];simp[List.map_set]) ?_;exact sZ
     ·have GX:eR db x.set.name k=j:=by rw[hj.2];exact Wq (by simpa using h6)
      rw[GX]at dR fc;refine gO F191 ?_;refine aY ?_;refine gO F191 ?_;rcases Nat.eq_zero_or_pos j with rI|rI
      ·have iA:mq db x.set.name j=[]:=by simp[mq,rI]
       rw[iA]at dR;refine aO (by simp;omega) ?_;refine gO F191 ?_;refine aY ?_;refine gO F191 ?_;refine aa.back (IH (i+1,j) ⟨by simp only;omega,by simp only;omega,fc⟩ (by simp only;omega)) ?_;(conv=>whnf);repeat (first|exact trivial|(refine sI ?_;conv=>whnf))
       refine And.intro (by rw[CP eS dR]) ?_;exact sZ
      ·obtain⟨c,hc⟩:=bd (l:=db) (k:=j-1) (by omega);have GY:=dS c (List.mem_of_getElem? hc);have iA:mq db x.set.name j=if Nm.under x.set.name c then c else[]:=by simp[mq,hc];omega
       rw[iA]at dR;refine aI (by simp;omega) ?_;refine gO F191 ?_;refine aC (oY hc rI (by omega)) rfl ?_;refine gO F191 ?_
       with_reducible refine aj (pZ _ _ iT GY) ?_
       refine gO F191 ?_;cases hu:Nm.under x.set.name c
       ·rw[hu]at dR;refine aY ?_;refine gO F191 ?_;refine aa.back (IH (i+1,j) ⟨by simp only;omega,by simp only;omega,fc⟩ (by simp only;omega)) ?_;(conv=>whnf);repeat (first|exact trivial|(refine sI ?_;conv=>whnf))
        refine And.intro (by rw[CP eS (by simpa using dR)]) ?_;exact sZ
       ·rw[hu]at dR;refine bp ?_;refine gO F191 ?_;refine aC (oY hc rI (by omega)) rfl ?_;refine gO F191 ?_;refine bA ⟨by omega,by simp;omega⟩ ?_;refine gO F191 ?_;refine fu (.str []) (by omega) (by simp only[Int.toNat_natCast,List.getElem?_map];rw[ni eS ai];rfl) rfl ?_;refine gO F191 ?_;refine aa.back (IH (i+1,j) ⟨by simp only;omega,by simp only;omega,fc⟩ (by simp only;omega)) ?_;(conv=>whnf);repeat (first|exact trivial|(refine sI ?_;conv=>whnf))
        refine And.intro (by rw[<- nh (e:=[]) eS (by simpa using dR)];simp[List.map_set]) ?_;exact sZ
   ·have aG:l.length<=i:=by simpa using h5
    refine gO F191 ?_;simp only[show l.length-i=0 by omega,List.replicate_zero,List.append_nil];rw[List.take_of_length_le (by omega)]
theorem xz{α β:Type}{a:List α}{b:List β}{k:Nat}{x:α}{y:β}(ha:a[k]?=some x)(hb:b[k]?=some y):(a.zip b)[k]?=some (x,y):=by
 rw[List.getElem?_zip_eq_some];exact⟨ha,hb⟩
def kj(s:Signed)(b:Text):Bool:=b==[]||(s.set.type != 2&&s.set.type != 1)
def rJ(z:aP):List Bool:=(z.ab.zip (je z)).map fun p=>kj p.1 p.2
theorem GZ(z:aP):(rJ z).length=z.ab.length:=by simp[rJ,tc]
theorem Ws(z:aP)(hl:z.ab.length<=1000000)(hn:∀ s∈z.ab,s.set.name.length<=1000):au E 192 [z.enc] (· = .sl ((rJ z).map .bool)):=by
 have eS:=tc z;have G0:=GZ z;have hO:rJ z=(z.ab.zip (je z)).map fun p=>kj p.1 p.2:=rfl;generalize rJ z=O at *;refine eP F192 ?_
 with_reducible refine aj (Nj z hl hn) ?_
 refine gO F192 ?_;generalize je z=B at *;obtain⟨ad,l⟩:=z;simp only at *;refine bA (by simp;omega) ?_;refine gO F192 ?_;refine aa.loop (κ:=Nat) ([5,6]++rg 13 30) (fun k=>[(5,.d (.int .i64 k)),(4,.own 1 0)]) (fun k=>[(1,.arr 0 (4,1) ((O.take k++List.replicate (l.length-k) false).map .bool))]) (fun k=>k<=l.length) (fun k=>l.length-k) 0 (Nat.zero_le _) ?_ ?_
 ·(conv=>whnf);repeat (first|exact trivial|(refine sI ?_;conv=>whnf))
  refine And.intro (by simp) ?_;exact sZ
 ·intro k hk IH;refine aa.head ag F192 2000 ?_;(conv=>whnf);refine ar (fun h5=>?_) (fun h5=>?_)
  ·have ai:k<l.length:=by simpa using h5
   obtain⟨x,hx⟩:=bd ai;obtain⟨b,hb⟩:=bd (l:=B) (k:=k) (by omega);have xA:O[k]?=some (kj x b):=by rw[hO,List.getElem?_map,xz hx hb];rfl
   have Nk:=ni (e:=false) G0 ai;have cQ:=nh (e:=false) G0 xA;refine gO F192 ?_;repeat' (first|with_reducible(first|refine aC (aS hx) rfl ?_|refine aC (aS hb) rfl ?_|refine cY ?_|refine cN ?_|refine ar (fun _=>?_) (fun _=>?_))|refine gA F192 ?_|refine gB ?_|refine gC ?_|with_reducible rfl)
   all_goals
    refine bA ⟨by omega,by simp;omega⟩ ?_;refine gO F192 ?_;refine fu (.bool false) (by omega) (by simp only[Int.toNat_natCast,List.getElem?_map];rw[Nk];rfl) rfl ?_;refine gO F192 ?_;refine aa.back (IH (k+1) (by omega) (by omega)) ?_;(conv=>whnf);repeat (first|exact trivial|(refine sI ?_;conv=>whnf))
    refine And.intro (by rw[<- cQ];simp only[Int.toNat_natCast,List.map_set];congr 2;clear cQ Nk xA hO IH hb;rcases b with _|⟨c,b⟩<;>simp_all[kj]) ?_;exact sZ
  ·have aG:l.length<=k:=by simpa using h5
   refine gO F192 ?_;simp only[show l.length-k=0 by omega,List.replicate_zero,List.append_nil];rw[List.take_of_length_le (by omega)]
def fH(ad:Text)(s:Signed):Bool:=fa s.set&&Nm.under s.set.name ad
def iC(q s:Signed):Bool:=decide (nY q.set s.set<0)
def n'(z:aP):Bool:=Nm.valid z.ad && !rG z.ad && !(decide ((z.ab.length:Int)>20000))&&chain (fH z.ad) iC none z.ab
theorem vA{s:eD}(h:fa s=true):Nm.valid s.name=true:=by
 simp only[fa,Bool.and_eq_true]at h;exact h.1.1.1.1.1.1
structure aP.Fits(z:aP):Prop where
 ad:z.ad.length<=maxLen
 ab:∀ s∈z.ab,s.set.Fits
theorem Nl(z:aP)(hf:z.Fits):au E 120 [z.enc] (· = .bool (n' z)):=by
 obtain⟨ad,l⟩:=z;have ma:ad.length<=maxLen:=hf.ad;have gU:∀ s∈l,s.set.Fits:=hf.ab;unfold n';simp only;cases hv:Nm.valid ad
 ·refine eP F120 ?_
  with_reducible refine aj (fF _ ma) ?_
  refine gO F120 ?_;rw[hv];refine aI rfl ?_;refine gO F120 ?_;refine bp ?_;refine gO F120 ?_;refine bp ?_;refine gO F120 ?_;simp
 ·have p7:=dK hv;refine eP F120 ?_
  with_reducible refine aj (fF _ ma) ?_
  refine gO F120 ?_;rw[hv];refine aO rfl ?_;refine gO F120 ?_
  with_reducible refine aj (GV ad (by omega)) ?_
  refine gO F120 ?_;cases hw:rG ad
  case true =>
   refine bp ?_;refine gO F120 ?_;refine bp ?_;refine gO F120 ?_;simp
  refine aY ?_;refine gO F120 ?_;refine ar (fun h3=>?_) (fun h3=>?_)
  ·refine gO F120 ?_;simp only[List.length_map]at h3;rw[h3];simp
  ·simp only[List.length_map]at h3;rw[h3];simp only[Bool.not_false,Bool.true_and];have Nn:l.length<=20000:=by simp at h3;omega
   refine gO F120 ?_;refine aa.loop (κ:=Nat) ([2,3,4]++rg 20 40) (fun k=>[(3,.d (.int .i64 k))]) (fun _=>[]) (fun k=>k<=l.length/\chain (fH ad) iC none l=chain (fH ad) iC (cW l k) (l.drop k)/\∀ q,cW l k=some q->fa q.set=true) (fun k=>l.length-k) 0 ⟨Nat.zero_le _,rfl,fun q h=>by simp[cW]at h⟩ ?_ ?_
   ·exact sZ
   ·intro k hk IH;refine aa.head ag F120 2000 ?_;(conv=>whnf);refine ar (fun h5=>?_) (fun h5=>?_)
    ·have ai:k<l.length:=by simpa using h5
     obtain⟨x,hx⟩:=bd ai;have bc:=CM (ok:=fH ad) (rel:=iC) hx;rw[<- hk.2.1]at bc;have Ac:=gU x (List.mem_of_getElem? hx);have p9:cW l (k+1)=some x:=by simp[cW,hx]
     cases hs:fa x.set
     ·refine gO F120 ?_;refine aC (aS hx) rfl ?_;refine gO F120 ?_;refine aa.draw ag bN 27 2000 (by kernel_rfl) ?_;conv=>whnf
      with_reducible refine bj (CK x.set Ac) ?_
      refine gD ?_;rw[hs];refine aI rfl ?_;refine gD ?_;repeat' (first|with_reducible(first|refine cY ?_|refine cN ?_|refine ar (fun _=>?_) (fun _=>?_))|refine gA F120 ?_|refine gB ?_|refine gC ?_|with_reducible rfl)
      rw[bc,fH,hs];simp
     ·have di:=vA hs;have iT:=dK di;refine gO F120 ?_;refine aC (aS hx) rfl ?_;refine gO F120 ?_;refine aa.draw ag bN 27 2000 (by kernel_rfl) ?_;conv=>whnf
      with_reducible refine bj (CK x.set Ac) ?_
      refine gD ?_;rw[hs];refine aO rfl ?_;refine gD ?_
      with_reducible refine bj (pZ x.set.name ad (by omega) (by omega)) ?_
      refine gD ?_;rcases Nat.eq_zero_or_pos k with dh|dh
      ·have eE:cW l k=none:=by simp[cW,dh]
       rw[eE]at bc;dsimp only at bc;rw[Bool.and_true]at bc;repeat' (first|with_reducible(first|refine cY ?_|refine cN ?_|refine ar (fun _=>?_) (fun _=>?_))|refine gA F120 ?_|refine gB ?_|refine gC ?_|with_reducible rfl)
       all_goals first
        |(have dE : fH ad x=false := by clear bc hk IH;simp_all[fH]
          rw[bc, dE, Bool.false_and]
          done)
        |(exfalso;clear bc hk IH;simp_all;done)
        |skip
       all_goals
        refine gO F120 ?_;refine aa.back (IH (k+1) ⟨by omega,by rw[bc,show fH ad x=true by clear bc hk IH;simp_all[fH],Bool.true_and],fun q hq=>by rw[p9]at hq;cases hq;exact hs⟩ (by omega)) ?_;exact sZ
      ·obtain⟨q,hq,eE⟩:=xu dh hk.1;have CS:=vA (hk.2.2 q eE);rw[eE]at bc;repeat' (first|with_reducible(first|refine aC (oY hq dh (by omega)) rfl ?_|refine aj (M8 q.set x.set CS di) ?_|refine bj (M8 q.set x.set CS di) ?_|refine cY ?_|refine cN ?_|refine ar (fun _=>?_) (fun _=>?_))|refine gA F120 ?_|refine gB ?_|refine gC ?_|with_reducible rfl)
       all_goals first
        |(have dE : (fH ad x && iC q x)=false := by clear bc hk IH;simp_all[fH, iC]
          rw[bc, dE, Bool.false_and]
          done)
        |(exfalso;clear bc hk IH;simp_all;omega)
        |skip
       all_goals
        refine gO F120 ?_;refine aa.back (IH (k+1) ⟨by omega,by rw[bc,show(fH ad x&&iC q x)=true by clear bc hk IH;simp_all[fH,iC],Bool.true_and],fun q hq=>by rw[p9]at hq;cases hq;exact hs⟩ (by omega)) ?_;exact sZ
    ·have aG:l.length<=k:=by simpa using h5
     refine gO F120 ?_;rw[hk.2.1,List.drop_of_length_le aG];rfl
def qa(s:Signed)(b:Text):Bool := !(b != []&&s.set.type != 1 && !(b != []&&s.set.name==b)) && !((b != []&&s.set.name==b)&&s.set.type != 1&&s.set.type != 2&&s.set.type != 6&&s.set.type != 8) && !(s.set.type==6 && !(b != []&&s.set.name==b))
def Ad(z:aP):Bool:=(z.ab.zip (je z)).all fun p=>qa p.1 p.2
theorem No(z:aP)(hl:z.ab.length<=1000000)(hn:∀ s∈z.ab,s.set.name.length<=1000):au E 123 [z.enc] (· = .bool (Ad z)):=by
 have eS:=tc z;unfold Ad;refine eP F123 ?_
 with_reducible refine aj (Nj z hl hn) ?_
 refine gO F123 ?_;generalize je z=B at *;obtain⟨ad,l⟩:=z;simp only at *;refine aa.loop (κ:=Nat) ([2,4,5,6]++rg 9 69) (fun k=>[(4,.d (.int .i64 k))]) (fun _=>[]) (fun k=>k<=l.length/\((l.zip B).take k).all (fun p=>qa p.1 p.2)=true) (fun k=>l.length-k) 0 ⟨Nat.zero_le _,rfl⟩ ?_ ?_
 ·exact sZ
 ·intro k hk IH;refine aa.head ag F123 2000 ?_;(conv=>whnf);refine ar (fun h5=>?_) (fun h5=>?_)
  ·have ai:k<l.length:=by simpa using h5
   obtain⟨x,hx⟩:=bd ai;obtain⟨b,hb⟩:=bd (l:=B) (k:=k) (by omega);have hz:=xz hx hb;refine gO F123 ?_;refine aC (aS hx) rfl ?_;refine gO F123 ?_;refine aa.draw ag bN 15 2000 (by kernel_rfl) ?_;(conv=>whnf);repeat' (first|with_reducible(first|refine aC (aS hb) rfl ?_|refine cY ?_|refine cN ?_|refine ar (fun _=>?_) (fun _=>?_))|refine gA F123 ?_|refine gB ?_|refine gC ?_|with_reducible rfl)
   all_goals first
    |(rw[iU hz (by clear hz hb hk IH;rcases b with _|⟨c,b⟩<;>simp_all[qa])];done)
    |(exfalso;clear hz hb hk IH;rcases b with _|⟨c,b⟩<;>simp_all;done)
    |skip
   all_goals
    refine gO F123 ?_;refine aa.back (IH (k+1) ⟨by omega,jC hk.2 hz (by clear hz hb hk IH;rcases b with _|⟨c,b⟩<;>simp_all[qa])⟩ (by omega)) ?_;exact sZ
  ·have aG:l.length<=k:=by simpa using h5
   refine gO F123 ?_;rw[nX hk.2 (by simp;omega)]
def vB(ad:Text)(s:Signed)(o:Bool):Bool:=nZ s.sigs ad && !(!o&&decide ((s.sigs.length:Int)>0))
def CT(z:aP):Bool:=(z.ab.zip (rJ z)).all fun p=>vB z.ad p.1 p.2
theorem Np(z:aP)(hl:z.ab.length<=1000000)(hn:∀ s∈z.ab,s.set.name.length<=1000):au E 124 [z.enc] (· = .bool (CT z)):=by
 have G0:=GZ z;unfold CT;refine eP F124 ?_
 with_reducible refine aj (Ws z hl hn) ?_
 refine gO F124 ?_;generalize rJ z=O at *;obtain⟨ad,l⟩:=z;simp only at *;refine aa.loop (κ:=Nat) ([2,4]++rg 7 34) (fun k=>[(4,.d (.int .i64 k))]) (fun _=>[]) (fun k=>k<=l.length/\((l.zip O).take k).all (fun p=>vB ad p.1 p.2)=true) (fun k=>l.length-k) 0 ⟨Nat.zero_le _,rfl⟩ ?_ ?_
 ·exact sZ
 ·intro k hk IH;refine aa.head ag F124 2000 ?_;(conv=>whnf);refine ar (fun h5=>?_) (fun h5=>?_)
  ·have ai:k<l.length:=by simpa using h5
   obtain⟨x,hx⟩:=bd ai;obtain⟨b,hb⟩:=bd (l:=O) (k:=k) (by omega);have hz:=xz hx hb;refine gO F124 ?_;refine aa.draw ag bN 27 2000 (by kernel_rfl) ?_;(conv=>whnf);repeat' (first|with_reducible(first|refine aC (aS hx) rfl ?_|refine aC (aS hb) rfl ?_|refine aj (M' _ _) ?_|refine bj (M' _ _) ?_|refine cY ?_|refine cN ?_|refine ar (fun _=>?_) (fun _=>?_))|refine gA F124 ?_|refine gB ?_|refine gC ?_|with_reducible rfl)
   all_goals first
    |(rw[iU hz (by clear hz hb hk IH;simp_all[vB])];done)
    |(exfalso;clear hz hb hk IH;simp_all;done)
    |skip
   all_goals
    refine gO F124 ?_;refine aa.back (IH (k+1) ⟨by omega,jC hk.2 hz (by clear hz hb hk IH;simp_all[vB])⟩ (by omega)) ?_;exact sZ
  ·have aG:l.length<=k:=by simpa using h5
   refine gO F124 ?_;rw[nX hk.2 (by simp;omega)]
def eT(z:aP):Bool:=n' z&&(rH z&&(mo [] none z.ab&&(Ad z&&CT z)))
theorem Nq{α:Type}{ok:α->Bool}{rel:α->α->Bool}:∀ {p:Option α} {l:List α},chain ok rel p l=true->∀ x∈l,ok x=true
 |_,[],_,x,hx=>by simp at hx
 |p,y::l,h,x,hx=>by
  simp only[chain,Bool.and_eq_true]at h;rcases List.mem_cons.1 hx with rfl|hx
  ·exact h.1.1
  ·exact Nq h.2 x hx
theorem vC{z:aP}(h:n' z=true):z.ab.length<=20000/\(∀ s∈z.ab,fH z.ad s=true)/\Nm.valid z.ad=true:=by
 simp only[n',Bool.and_eq_true]at h;refine⟨by have:=h.1.2;simp at this;omega,Nq h.2,h.1.1.1⟩
theorem Wt{ad:Text}{s:Signed}(h:fH ad s=true):s.set.name.length<=60:=by
 simp only[fH,Bool.and_eq_true]at h;exact dK (vA h.1)
theorem Nr(z:aP)(hf:z.Fits):au E 79 [z.enc] (· = .bool (eT z)):=by
 unfold eT;cases h1:n' z
 ·have cj:=Nl z hf;rw[h1]at cj;refine eP Tryz.func79 ?_;repeat' (first|with_reducible(first|refine aj (cj) ?_|refine bj (cj) ?_|refine cY ?_|refine cN ?_|refine ar (fun _=>?_) (fun _=>?_))|refine gA Tryz.func79 ?_|refine gB ?_|refine gC ?_|with_reducible rfl)
  all_goals simp_all
 ·obtain⟨g1,g2,-⟩:=vC h1;have gl:z.ab.length<=1000000:=by omega
  have gn:∀ s∈z.ab,s.set.name.length<=1000:=fun s hs=>by have:=Wt (g2 s hs);omega
  have cj:=Nl z hf;rw[h1]at cj;refine eP Tryz.func79 ?_;repeat' (first|with_reducible(first|refine aj (cj) ?_|refine bj (cj) ?_|refine aj (Nd z (by omega)) ?_|refine bj (Nd z (by omega)) ?_|refine aj (Nf z (by omega)) ?_|refine bj (Nf z (by omega)) ?_|refine aj (No z gl gn) ?_|refine bj (No z gl gn) ?_|refine aj (Np z gl gn) ?_|refine bj (Np z gl gn) ?_|refine cY ?_|refine cN ?_|refine ar (fun _=>?_) (fun _=>?_))|refine gA Tryz.func79 ?_|refine gB ?_|refine gC ?_|with_reducible rfl)
  all_goals simp_all
end Go.Proofs.YtcmnpelmmekdkaaGreatDoor.P
end

/- Lemmas of mine. Conditions: as stated. -/
import Derived.Test.YtcmnpelmmekdkaaGreatDoorV2
import Derived.Test.YtcmnpelmmekdkaaGreatDoorV3
set_option linter.unusedVariables false
set_option linter.unusedSimpArgs false
section
namespace Go.Proofs.YtcmnpelmmekdkaaGreatDoor
open Go Go.aA
def CP:DV := .agg [.int .i64 0,.int .i64 0,.int .i64 0,.int .i64 0,.int .i64 0,.bool false,.bool false,.bool false,.int .i64 0,.int .i64 1,.int .i64 1000000,.int .i64 0,.int .i64 0,.bool false,.bool false,.bool true,.int .i64 1,.int .i64 0,.int .i64 0,.int .i64 0,.int .i64 0,.bool false,.bool false,.bool false,.int .i64 1,.int .i64 0,.int .i64 0,.int .i64 0,.int .i64 0,.bool false,.bool true,.bool false,.int .i64 0,.int .i64 0,.int .i64 65535,.int .i64 0,.int .i64 100000,.bool false,.bool true,.bool false,.int .i64 3,.int .i64 0,.int .i64 0,.int .i64 0,.int .i64 0,.bool false,.bool false,.bool true,.int .i64 0,.int .i64 1,.int .i64 1000000,.int .i64 1,.int .i64 3,.bool false,.bool false,.bool false,.int .i64 0,.int .i64 1,.int .i64 1000000,.int .i64 1,.int .i64 3,.bool false,.bool false,.bool false,.int .i64 2,.int .i64 2,.int .i64 510,.int .i64 0,.int .i64 0,.bool true,.bool false,.bool true]
def types:List bD:=[
 ⟨.other,1,0,[]⟩,
 ⟨.func,1,8,[.aF]⟩,
 ⟨.int .i64,1,8,[.int .i64 0]⟩,
 ⟨.int .i64,1,8,[.int .i64 0]⟩,
 ⟨.bool,1,1,[.bool false]⟩,
 ⟨.int .u8,1,1,[.int .u8 0]⟩,
 ⟨.int .u8,1,1,[.int .u8 0]⟩,
 ⟨.struct [(0,2),(1,3),(2,4),(3,6)],4,24,[.int .i64 0,.int .i64 0,.bool false,.int .u8 0]⟩,
 ⟨.struct [(0,2),(1,3),(2,4),(3,6)],4,24,[.int .i64 0,.int .i64 0,.bool false,.int .u8 0]⟩,
 ⟨.string,1,16,[.str []]⟩,
 ⟨.string,1,16,[.str []]⟩,
 ⟨.string,1,16,[.str []]⟩,
 ⟨.int .u64,1,8,[.int .u64 0]⟩,
 ⟨.struct [(0,9),(1,12)],2,24,[.str [],.int .u64 0]⟩,
 ⟨.struct [(0,9),(1,12)],2,24,[.str [],.int .u64 0]⟩,
 ⟨.pointer 293,1,8,[.eJ]⟩,
 ⟨.pointer 296,1,8,[.eJ]⟩,
 ⟨.pointer 303,1,8,[.eJ]⟩,
 ⟨.struct [(0,17)],1,8,[.eJ]⟩,
 ⟨.struct [(0,17)],1,8,[.eJ]⟩,
 ⟨.iface,1,16,[.mE]⟩,
 ⟨.int .i32,1,4,[.int .i32 0]⟩,
 ⟨.slice 69,1,24,[.aW]⟩,
 ⟨.slice 52,1,24,[.aW]⟩,
 ⟨.slice 59,1,24,[.aW]⟩,
 ⟨.struct [(0,9),(1,3),(2,3),(3,24)],4,56,[.str [],.int .i64 0,.int .i64 0,.aW]⟩,
 ⟨.struct [(0,9),(1,3),(2,3),(3,24)],4,56,[.str [],.int .i64 0,.int .i64 0,.aW]⟩,
 ⟨.slice 3,1,24,[.aW]⟩,
 ⟨.struct [(0,22),(1,23),(2,26),(6,27)],7,128,[.aW,.aW,.str [],.int .i64 0,.int .i64 0,.aW,.aW]⟩,
 ⟨.struct [(0,22),(1,23),(2,26),(6,27)],7,128,[.aW,.aW,.str [],.int .i64 0,.int .i64 0,.aW,.aW]⟩,
 ⟨.func,1,8,[.aF]⟩,
 ⟨.func,1,8,[.aF]⟩,
 ⟨.slice 9,1,24,[.aW]⟩,
 ⟨.int .i64,1,8,[.int .i64 0]⟩,
 ⟨.other,1,0,[]⟩,
 ⟨.func,1,8,[.aF]⟩,
 ⟨.other,1,0,[]⟩,
 ⟨.func,1,8,[.aF]⟩,
 ⟨.slice 54,1,24,[.aW]⟩,
 ⟨.other,1,0,[]⟩,
 ⟨.func,1,8,[.aF]⟩,
 ⟨.func,1,8,[.aF]⟩,
 ⟨.func,1,8,[.aF]⟩,
 ⟨.func,1,8,[.aF]⟩,
 ⟨.func,1,8,[.aF]⟩,
 ⟨.func,1,8,[.aF]⟩,
 ⟨.func,1,8,[.aF]⟩,
 ⟨.func,1,8,[.aF]⟩,
 ⟨.slice 57,1,24,[.aW]⟩,
 ⟨.struct [(0,9),(1,48)],2,40,[.str [],.aW]⟩,
 ⟨.struct [(0,9),(1,48)],2,40,[.str [],.aW]⟩,
 ⟨.struct [(0,3),(1,50)],3,48,[.int .i64 0,.str [],.aW]⟩,
 ⟨.struct [(0,3),(1,50)],3,48,[.int .i64 0,.str [],.aW]⟩,
 ⟨.struct [(0,9),(1,3)],2,24,[.str [],.int .i64 0]⟩,
 ⟨.struct [(0,9),(1,3)],2,24,[.str [],.int .i64 0]⟩,
 ⟨.slice 210,1,24,[.aW]⟩,
 ⟨.struct [(0,26),(4,55)],5,80,[.str [],.int .i64 0,.int .i64 0,.aW,.aW]⟩,
 ⟨.struct [(0,26),(4,55)],5,80,[.str [],.int .i64 0,.int .i64 0,.aW,.aW]⟩,
 ⟨.struct [(0,9),(1,3),(2,3)],3,32,[.str [],.int .i64 0,.int .i64 0]⟩,
 ⟨.struct [(0,9),(1,3),(2,3)],3,32,[.str [],.int .i64 0,.int .i64 0]⟩,
 ⟨.func,1,8,[.aF]⟩,
 ⟨.func,1,8,[.aF]⟩,
 ⟨.func,1,8,[.aF]⟩,
 ⟨.struct [(0,3),(1,48),(2,9)],3,48,[.int .i64 0,.aW,.str []]⟩,
 ⟨.struct [(0,3),(1,48),(2,9)],3,48,[.int .i64 0,.aW,.str []]⟩,
 ⟨.other,1,0,[]⟩,
 ⟨.func,1,8,[.aF]⟩,
 ⟨.map 3 4,1,8,[.im]⟩,
 ⟨.struct [(0,9),(1,3),(2,3)],3,32,[.str [],.int .i64 0,.int .i64 0]⟩,
 ⟨.struct [(0,9),(1,3),(2,3)],3,32,[.str [],.int .i64 0,.int .i64 0]⟩,
 ⟨.func,1,8,[.aF]⟩,
 ⟨.func,1,8,[.aF]⟩,
 ⟨.slice 75,1,24,[.aW]⟩,
 ⟨.func,1,8,[.aF]⟩,
 ⟨.struct [(0,9),(1,38),(2,32)],3,64,[.str [],.aW,.aW]⟩,
 ⟨.struct [(0,9),(1,38),(2,32)],3,64,[.str [],.aW,.aW]⟩,
 ⟨.func,1,8,[.aF]⟩,
 ⟨.func,1,8,[.aF]⟩,
 ⟨.map 9 4,1,8,[.im]⟩,
 ⟨.func,1,8,[.aF]⟩,
 ⟨.func,1,8,[.aF]⟩,
 ⟨.func,1,8,[.aF]⟩,
 ⟨.func,1,8,[.aF]⟩,
 ⟨.func,1,8,[.aF]⟩,
 ⟨.func,1,8,[.aF]⟩,
 ⟨.func,1,8,[.aF]⟩,
 ⟨.func,1,8,[.aF]⟩,
 ⟨.func,1,8,[.aF]⟩,
 ⟨.func,1,8,[.aF]⟩,
 ⟨.slice 96,1,24,[.aW]⟩,
 ⟨.func,1,8,[.aF]⟩,
 ⟨.map 9 50,1,8,[.im]⟩,
 ⟨.map 9 50,1,8,[.im]⟩,
 ⟨.func,1,8,[.aF]⟩,
 ⟨.func,1,8,[.aF]⟩,
 ⟨.struct [(0,9),(1,32),(2,3),(3,54)],5,72,[.str [],.aW,.int .i64 0,.str [],.int .i64 0]⟩,
 ⟨.struct [(0,9),(1,32),(2,3),(3,54)],5,72,[.str [],.aW,.int .i64 0,.str [],.int .i64 0]⟩,
 ⟨.func,1,8,[.aF]⟩,
 ⟨.func,1,8,[.aF]⟩,
 ⟨.func,1,8,[.aF]⟩,
 ⟨.func,1,8,[.aF]⟩,
 ⟨.other,1,0,[]⟩,
 ⟨.func,1,8,[.aF]⟩,
 ⟨.pointer 107,1,8,[.eJ]⟩,
 ⟨.func,1,8,[.aF]⟩,
 ⟨.map 54 3,1,8,[.im]⟩,
 ⟨.struct [(0,9),(1,48),(2,105),(3,54),(5,9),(6,4),(7,9)],8,112,[.str [],.aW,.im,.str [],.int .i64 0,.str [],.bool false,.str []]⟩,
 ⟨.struct [(0,9),(1,48),(2,105),(3,54),(5,9),(6,4),(7,9)],8,112,[.str [],.aW,.im,.str [],.int .i64 0,.str [],.bool false,.str []]⟩,
 ⟨.func,1,8,[.aF]⟩,
 ⟨.slice 108,1,24,[.aW]⟩,
 ⟨.other,1,0,[]⟩,
 ⟨.func,1,8,[.aF]⟩,
 ⟨.func,1,8,[.aF]⟩,
 ⟨.map 9 3,1,8,[.im]⟩,
 ⟨.struct [(0,29),(7,113)],8,136,[.aW,.aW,.str [],.int .i64 0,.int .i64 0,.aW,.aW,.im]⟩,
 ⟨.struct [(0,29),(7,113)],8,136,[.aW,.aW,.str [],.int .i64 0,.int .i64 0,.aW,.aW,.im]⟩,
 ⟨.func,1,8,[.aF]⟩,
 ⟨.func,1,8,[.aF]⟩,
 ⟨.func,1,8,[.aF]⟩,
 ⟨.slice 123,1,24,[.aW]⟩,
 ⟨.other,1,0,[]⟩,
 ⟨.func,1,8,[.aF]⟩,
 ⟨.struct [(0,54),(2,9)],3,40,[.str [],.int .i64 0,.str []]⟩,
 ⟨.struct [(0,54),(2,9)],3,40,[.str [],.int .i64 0,.str []]⟩,
 ⟨.func,1,8,[.aF]⟩,
 ⟨.func,1,8,[.aF]⟩,
 ⟨.func,1,8,[.aF]⟩,
 ⟨.func,1,8,[.aF]⟩,
 ⟨.func,1,8,[.aF]⟩,
 ⟨.string,1,16,[.str []]⟩,
 ⟨.func,1,8,[.aF]⟩,
 ⟨.func,1,8,[.aF]⟩,
 ⟨.other,1,0,[]⟩,
 ⟨.func,1,8,[.aF]⟩,
 ⟨.func,1,8,[.aF]⟩,
 ⟨.func,1,8,[.aF]⟩,
 ⟨.func,1,8,[.aF]⟩,
 ⟨.struct [(0,89)],1,24,[.aW]⟩,
 ⟨.struct [(0,89)],1,24,[.aW]⟩,
 ⟨.func,1,8,[.aF]⟩,
 ⟨.other,1,0,[]⟩,
 ⟨.func,1,8,[.aF]⟩,
 ⟨.slice 189,1,24,[.aW]⟩,
 ⟨.struct [(0,32),(1,142)],2,48,[.aW,.aW]⟩,
 ⟨.struct [(0,32),(1,142)],2,48,[.aW,.aW]⟩,
 ⟨.func,1,8,[.aF]⟩,
 ⟨.func,1,8,[.aF]⟩,
 ⟨.func,1,8,[.aF]⟩,
 ⟨.func,1,8,[.aF]⟩,
 ⟨.map 9 152,1,8,[.im]⟩,
 ⟨.func,1,8,[.aF]⟩,
 ⟨.struct [(0,3),(1,3)],2,16,[.int .i64 0,.int .i64 0]⟩,
 ⟨.struct [(0,3),(1,3)],2,16,[.int .i64 0,.int .i64 0]⟩,
 ⟨.other,1,0,[]⟩,
 ⟨.func,1,8,[.aF]⟩,
 ⟨.other,1,0,[]⟩,
 ⟨.func,1,8,[.aF]⟩,
 ⟨.struct [(0,50)],2,40,[.str [],.aW]⟩,
 ⟨.struct [(0,50)],2,40,[.str [],.aW]⟩,
 ⟨.other,1,0,[]⟩,
 ⟨.func,1,8,[.aF]⟩,
 ⟨.other,1,0,[]⟩,
 ⟨.func,1,8,[.aF]⟩,
 ⟨.func,1,8,[.aF]⟩,
 ⟨.func,1,8,[.aF]⟩,
 ⟨.func,1,8,[.aF]⟩,
 ⟨.func,1,8,[.aF]⟩,
 ⟨.func,1,8,[.aF]⟩,
 ⟨.func,1,8,[.aF]⟩,
 ⟨.func,1,8,[.aF]⟩,
 ⟨.func,1,8,[.aF]⟩,
 ⟨.func,1,8,[.aF]⟩,
 ⟨.func,1,8,[.aF]⟩,
 ⟨.map 175 4,1,8,[.im]⟩,
 ⟨.struct [(0,3),(1,9)],2,24,[.int .i64 0,.str []]⟩,
 ⟨.struct [(0,3),(1,9)],2,24,[.int .i64 0,.str []]⟩,
 ⟨.func,1,8,[.aF]⟩,
 ⟨.func,1,8,[.aF]⟩,
 ⟨.func,1,8,[.aF]⟩,
 ⟨.func,1,8,[.aF]⟩,
 ⟨.func,1,8,[.aF]⟩,
 ⟨.int .u64,1,8,[.int .u64 0]⟩,
 ⟨.func,1,8,[.aF]⟩,
 ⟨.func,1,8,[.aF]⟩,
 ⟨.other,1,0,[]⟩,
 ⟨.func,1,8,[.aF]⟩,
 ⟨.func,1,8,[.aF]⟩,
 ⟨.pointer 138,1,8,[.eJ]⟩,
 ⟨.struct [(0,54),(2,9)],3,40,[.str [],.int .i64 0,.str []]⟩,
 ⟨.struct [(0,54),(2,9)],3,40,[.str [],.int .i64 0,.str []]⟩,
 ⟨.func,1,8,[.aF]⟩,
 ⟨.other,1,0,[]⟩,
 ⟨.func,1,8,[.aF]⟩,
 ⟨.func,1,8,[.aF]⟩,
 ⟨.func,1,8,[.aF]⟩,
 ⟨.func,1,8,[.aF]⟩,
 ⟨.func,1,8,[.aF]⟩,
 ⟨.func,1,8,[.aF]⟩,
 ⟨.struct [(0,158),(2,32)],3,64,[.str [],.aW,.aW]⟩,
 ⟨.struct [(0,158),(2,32)],3,64,[.str [],.aW,.aW]⟩,
 ⟨.func,1,8,[.aF]⟩,
 ⟨.func,1,8,[.aF]⟩,
 ⟨.func,1,8,[.aF]⟩,
 ⟨.func,1,8,[.aF]⟩,
 ⟨.func,1,8,[.aF]⟩,
 ⟨.func,1,8,[.aF]⟩,
 ⟨.func,1,8,[.aF]⟩,
 ⟨.func,1,8,[.aF]⟩,
 ⟨.int .u64,1,8,[.int .u64 0]⟩,
 ⟨.struct [(0,9),(1,3),(2,3),(3,3),(4,3),(5,208)],6,56,[.str [],.int .i64 0,.int .i64 0,.int .i64 0,.int .i64 0,.int .u64 0]⟩,
 ⟨.struct [(0,9),(1,3),(2,3),(3,3),(4,3),(5,208)],6,56,[.str [],.int .i64 0,.int .i64 0,.int .i64 0,.int .i64 0,.int .u64 0]⟩,
 ⟨.func,1,8,[.aF]⟩,
 ⟨.func,1,8,[.aF]⟩,
 ⟨.func,1,8,[.aF]⟩,
 ⟨.func,1,8,[.aF]⟩,
 ⟨.func,1,8,[.aF]⟩,
 ⟨.func,1,8,[.aF]⟩,
 ⟨.func,1,8,[.aF]⟩,
 ⟨.func,1,8,[.aF]⟩,
 ⟨.func,1,8,[.aF]⟩,
 ⟨.func,1,8,[.aF]⟩,
 ⟨.func,1,8,[.aF]⟩,
 ⟨.func,1,8,[.aF]⟩,
 ⟨.func,1,8,[.aF]⟩,
 ⟨.struct [(0,3),(1,3),(2,3),(3,3),(4,3),(5,4),(6,4),(7,4)],8,48,[.int .i64 0,.int .i64 0,.int .i64 0,.int .i64 0,.int .i64 0,.bool false,.bool false,.bool false]⟩,
 ⟨.struct [(0,3),(1,3),(2,3),(3,3),(4,3),(5,4),(6,4),(7,4)],8,48,[.int .i64 0,.int .i64 0,.int .i64 0,.int .i64 0,.int .i64 0,.bool false,.bool false,.bool false]⟩,
 ⟨.array 9 225,72,432,[.int .i64 0,.int .i64 0,.int .i64 0,.int .i64 0,.int .i64 0,.bool false,.bool false,.bool false,.int .i64 0,.int .i64 0,.int .i64 0,.int .i64 0,.int .i64 0,.bool false,.bool false,.bool false,.int .i64 0,.int .i64 0,.int .i64 0,.int .i64 0,.int .i64 0,.bool false,.bool false,.bool false,.int .i64 0,.int .i64 0,.int .i64 0,.int .i64 0,.int .i64 0,.bool false,.bool false,.bool false,.int .i64 0,.int .i64 0,.int .i64 0,.int .i64 0,.int .i64 0,.bool false,.bool false,.bool false,.int .i64 0,.int .i64 0,.int .i64 0,.int .i64 0,.int .i64 0,.bool false,.bool false,.bool false,.int .i64 0,.int .i64 0,.int .i64 0,.int .i64 0,.int .i64 0,.bool false,.bool false,.bool false,.int .i64 0,.int .i64 0,.int .i64 0,.int .i64 0,.int .i64 0,.bool false,.bool false,.bool false,.int .i64 0,.int .i64 0,.int .i64 0,.int .i64 0,.int .i64 0,.bool false,.bool false,.bool false]⟩,
 ⟨.func,1,8,[.aF]⟩,
 ⟨.func,1,8,[.aF]⟩,
 ⟨.func,1,8,[.aF]⟩,
 ⟨.func,1,8,[.aF]⟩,
 ⟨.int .i64,1,8,[.int .i64 0]⟩,
 ⟨.other,1,0,[]⟩,
 ⟨.func,1,8,[.aF]⟩,
 ⟨.func,1,8,[.aF]⟩,
 ⟨.func,1,8,[.aF]⟩,
 ⟨.func,1,8,[.aF]⟩,
 ⟨.func,1,8,[.aF]⟩,
 ⟨.int .u32,1,4,[.int .u32 0]⟩,
 ⟨.func,1,8,[.aF]⟩,
 ⟨.func,1,8,[.aF]⟩,
 ⟨.func,1,8,[.aF]⟩,
 ⟨.func,1,8,[.aF]⟩,
 ⟨.func,1,8,[.aF]⟩,
 ⟨.func,1,8,[.aF]⟩,
 ⟨.slice 4,1,24,[.aW]⟩,
 ⟨.func,1,8,[.aF]⟩,
 ⟨.func,1,8,[.aF]⟩,
 ⟨.func,1,8,[.aF]⟩,
 ⟨.func,1,8,[.aF]⟩,
 ⟨.func,1,8,[.aF]⟩,
 ⟨.func,1,8,[.aF]⟩,
 ⟨.func,1,8,[.aF]⟩,
 ⟨.func,1,8,[.aF]⟩,
 ⟨.func,1,8,[.aF]⟩,
 ⟨.func,1,8,[.aF]⟩,
 ⟨.func,1,8,[.aF]⟩,
 ⟨.func,1,8,[.aF]⟩,
 ⟨.int .u64,1,8,[.int .u64 0]⟩,
 ⟨.func,1,8,[.aF]⟩,
 ⟨.func,1,8,[.aF]⟩,
 ⟨.func,1,8,[.aF]⟩,
 ⟨.pointer 3,1,8,[.eJ]⟩,
 ⟨.func,1,8,[.aF]⟩,
 ⟨.func,1,8,[.aF]⟩,
 ⟨.func,1,8,[.aF]⟩,
 ⟨.func,1,8,[.aF]⟩,
 ⟨.func,1,8,[.aF]⟩,
 ⟨.func,1,8,[.aF]⟩,
 ⟨.func,1,8,[.aF]⟩,
 ⟨.func,1,8,[.aF]⟩,
 ⟨.pointer 274,1,8,[.eJ]⟩,
 ⟨.slice 5,1,24,[.aW]⟩,
 ⟨.struct [(0,271),(1,272)],2,32,[.eJ,.aW]⟩,
 ⟨.struct [(0,271),(1,272)],2,32,[.eJ,.aW]⟩,
 ⟨.func,1,8,[.aF]⟩,
 ⟨.iface,1,16,[.mE]⟩,
 ⟨.iface,1,16,[.mE]⟩,
 ⟨.other,1,0,[]⟩,
 ⟨.func,1,8,[.aF]⟩,
 ⟨.func,1,8,[.aF]⟩,
 ⟨.pointer 258,1,8,[.eJ]⟩,
 ⟨.other,1,0,[]⟩,
 ⟨.func,1,8,[.aF]⟩,
 ⟨.func,1,8,[.aF]⟩,
 ⟨.func,1,8,[.aF]⟩,
 ⟨.func,1,8,[.aF]⟩,
 ⟨.pointer 5,1,8,[.eJ]⟩,
 ⟨.func,1,8,[.aF]⟩,
 ⟨.other,1,8,[.eJ]⟩,
 ⟨.func,1,8,[.aF]⟩,
 ⟨.func,1,8,[.aF]⟩,
 ⟨.struct [(0,17),(1,17),(2,17),(3,9)],4,40,[.eJ,.eJ,.eJ,.str []]⟩,
 ⟨.struct [(0,17),(1,17),(2,17),(3,9)],4,40,[.eJ,.eJ,.eJ,.str []]⟩,
 ⟨.array 0 16,0,0,[]⟩,
 ⟨.struct [(0,294)],0,0,[]⟩,
 ⟨.struct [(0,294)],0,0,[]⟩,
 ⟨.int .u8,1,1,[.int .u8 0]⟩,
 ⟨.int .u8,1,1,[.int .u8 0]⟩,
 ⟨.func,1,8,[.aF]⟩,
 ⟨.int .i32,1,4,[.int .i32 0]⟩,
 ⟨.int .i32,1,4,[.int .i32 0]⟩,
 ⟨.struct [(0,12),(1,12),(2,238),(3,297),(4,5),(5,5),(6,298),(7,299),(8,287),(9,300),(10,301)],11,48,[.int .u64 0,.int .u64 0,.int .u32 0,.int .u8 0,.int .u8 0,.int .u8 0,.int .u8 0,.aF,.eJ,.int .i32 0,.int .i32 0]⟩,
 ⟨.struct [(0,12),(1,12),(2,238),(3,297),(4,5),(5,5),(6,298),(7,299),(8,287),(9,300),(10,301)],11,48,[.int .u64 0,.int .u64 0,.int .u32 0,.int .u8 0,.int .u8 0,.int .u8 0,.int .u8 0,.aF,.eJ,.int .i32 0,.int .i32 0]⟩]
def CQ:List (Nat × DV):=[(0,CP)]
noncomputable def E:Env:=⟨Tryz.prog,types,CQ,[54,59,69,152,175,210,225]⟩
theorem bU:E.P.follows .mixedOrders=true:=by kernel_rfl
theorem Ve:(List.range 304).map (eR Tryz.prog)=types.map some:=by kernel_rfl
theorem Vf:E.Q.all (pt E.P)=true:=by kernel_rfl
theorem ag:E.OK:=⟨fun t i hi=>by
 have h:=congrArg (·[t]?) Ve;simp only[List.getElem?_map]at h;have cT:types[t]?=some i:=hi;rw[cT]at h;cases hr:(List.range 304)[t]? with
 |none=>rw[hr]at h;cases h
 |some u =>
  have hu:u=t:=by
   have ai:t<304:=by
    rcases Nat.lt_or_ge t 304 with h|h
    ·exact h
    ·rw[List.getElem?_eq_none (by simpa using h)]at hr;cases hr
   simp[ai]at hr;exact hr.symm
  subst hu;rw[hr]at h;have h2:eR Tryz.prog u=some i:=by simpa using h
  exact h2,fun t ht=>List.all_eq_true.1 Vf t ht⟩
end Go.Proofs.YtcmnpelmmekdkaaGreatDoor
end
section
namespace Go.Proofs.YtcmnpelmmekdkaaGreatDoor.P
open Go Go.aA
abbrev Text:=List UInt8
structure Datum where
 text:Text
 n:Int
 m:Int
 deriving DecidableEq
structure eM where
 name:Text
 type:Int
 jD:Int
 data:List Datum
 deriving DecidableEq
structure Key where
 n:Int
 pU:Int
 deriving DecidableEq
structure iS where
 aC:Text
 key:Int
 pU:Int
 ry:Int
 upto:Int
 sum:Int
 deriving DecidableEq
structure Signed where
 set:eM
 sigs:List iS
 deriving DecidableEq
structure aQ where
 ad:Text
 ab:List Signed
 deriving DecidableEq
@[reducible] def Datum.enc (d : Datum) : DV := .agg [.str d.text, .int .i64 d.n, .int .i64 d.m]
@[reducible] def MB (l : List Datum) : DV := .sl (l.map Datum.enc)
@[reducible] def eM.enc (s : eM) : DV := .agg [.str s.name, .int .i64 s.type, .int .i64 s.jD, MB s.data]
@[reducible] def Key.enc (k : Key) : DV := .agg [.int .i64 k.n, .int .i64 k.pU]
@[reducible] def iS.enc (g : iS) : DV := .agg [.str g.aC, .int .i64 g.key, .int .i64 g.pU, .int .i64 g.ry, .int .i64 g.upto, .int .u64 g.sum]
@[reducible] def G1 (l : List iS) : DV := .sl (l.map iS.enc)
@[reducible] def Signed.enc (x : Signed) : DV := .agg [.str x.set.name, .int .i64 x.set.type, .int .i64 x.set.jD, MB x.set.data, G1 x.sigs]
@[reducible] def vw (l : List Signed) : DV := .sl (l.map Signed.enc)
@[reducible] def aQ.enc (z : aQ) : DV := .agg [.str z.ad, vw z.ab]
def jE(n:Int):Prop := -9223372036854775808<=n/\n<=9223372036854775807
theorem wrap64{n:Int}(h1 : -9223372036854775808<=n)(h2:n<=9223372036854775807):IntKind.i64.wrap n=n:=by
 rw[IntWalk.i64_in n ⟨h1,h2⟩]
theorem gO{ae:FuncId}{fn:Func}(hf:E.P.funcs[ae]?=some fn){R:bZ}{lits:List Nat}{td:List aI}{s:List AV}{h:List af}{P Q:Prop}(H:Q)(e0:P=aa E ae R lits td s h:=by(conv=>lhs;whnf))(e1:runK E ae fn.results.toList R 2000 lits td s h=Q:=by(conv=>lhs;whnf)):P:=by
 rw[e0];exact aa.run ag hf 2000 (e1 ▸ H)
theorem gD{ae:FuncId}{R:bZ}{ops:Array Oper}{k:List aI}{lits:List Nat}{pre ba:List Oper}{s:List AV}{h:List af}{P Q:Prop}(H:Q)(e0:P=cg E ae R ops k lits pre ba s h:=by(conv=>lhs;whnf))(e1:me E ae R ops k 2000 lits pre ba s h=Q:=by(conv=>lhs;whnf)):P:=by
 rw[e0];exact cg.run ag 2000 (e1 ▸ H)
theorem gS{ae:FuncId}{R:bZ}{ops:Array Oper}{k:List aI}{lits:List Nat}{ba:List Oper}{s:List AV}{h:List af}{P Q:Prop}(H:Q)(e0:P=cI E ae R ops k lits ba s h:=by(conv=>lhs;whnf))(e1:oN E ae R ops k 2000 lits ba s h=Q:=by(conv=>lhs;whnf)):P:=by
 rw[e0];exact cI.run ag 2000 (e1 ▸ H)
theorem gA{ae:FuncId}{fn:Func}(hf:E.P.funcs[ae]?=some fn){R:bZ}{lits:List Nat}{td:List aI}{s:List AV}{h:List af}{P Q:Prop}(H:Q)(e0:P=aa E ae R lits td s h:=by(conv=>lhs;whnf))(e1:runK E ae fn.results.toList R 2000 lits td s h=Q:=by(conv=>lhs;whnf))(_:Q->Q:=by(intro h;(fail_if_success (with_reducible refine aa.of ?_));exact h)):P:=gO hf H e0 e1
theorem gB{ae:FuncId}{R:bZ}{ops:Array Oper}{k:List aI}{lits:List Nat}{pre ba:List Oper}{s:List AV}{h:List af}{P Q:Prop}(H:Q)(e0:P=cg E ae R ops k lits pre ba s h:=by(conv=>lhs;whnf))(e1:me E ae R ops k 2000 lits pre ba s h=Q:=by(conv=>lhs;whnf))(_:Q->Q:=by(intro h;(fail_if_success (with_reducible refine cg.is ?_));exact h)):P:=gD H e0 e1
theorem gC{ae:FuncId}{R:bZ}{ops:Array Oper}{k:List aI}{lits:List Nat}{ba:List Oper}{s:List AV}{h:List af}{P Q:Prop}(H:Q)(e0:P=cI E ae R ops k lits ba s h:=by(conv=>lhs;whnf))(e1:oN E ae R ops k 2000 lits ba s h=Q:=by(conv=>lhs;whnf))(_:Q->Q:=by(intro h;(fail_if_success (with_reducible refine cI.is ?_));exact h)):P:=gS H e0 e1
theorem eP {f : FuncId} {fn : Func} (hf : E.P.funcs[f]? = some fn) {args : List DV} {R : DV -> Prop} {Q : Prop} (H : Q) (hb : fn.body = some (fn.body.getD .skip) := by rfl) (hn : (fn.name == "runtime.NumGoroutine") = false := by decide) (e : (oq .d args fun a => runK E f fn.results.toList ⟨0, yX R, [], ⟨f, none, [], [], [], []⟩⟩ 2000 [] [.code (fn.body.getD .skip)] (nC a fn.ntmps) []) = Q := by (conv => lhs; whnf)) : az E f args R := az.run ag hf hb hn 2000 (e ▸ H)
def rg(a:Nat):Nat->List Nat
 |0=>[]
 |n+1=>a::rg (a+1) n
theorem sI{P Q:Prop}(q:Q)(p:P:=by first|with_reducible rfl|exact congrArg (DV.int .i64) (by omega)|exact congrArg (DV.int .i64) (wrap64 (by omega) (by omega))|exact congrArg (DV.int .i64) ((wrap64 (by omega) (by omega)).trans (by omega))):P/\Q:=⟨p,q⟩
theorem sZ{P:Prop}(h:P:=by((conv=>whnf);repeat (first|exact trivial|(refine sI ?_;conv=>whnf)))):P:=h
section
open Go.Proofs.Tryz
theorem F8:E.P.funcs[8]?=some f8:=func8
theorem F9:E.P.funcs[9]?=some f9:=func9
theorem F10:E.P.funcs[10]?=some f10:=func10
theorem F11:E.P.funcs[11]?=some f11:=func11
theorem F13:E.P.funcs[13]?=some f13:=func13
theorem F15:E.P.funcs[15]?=some f15:=func15
theorem F17:E.P.funcs[17]?=some f17:=func17
theorem F18:E.P.funcs[18]?=some f18:=func18
theorem F19:E.P.funcs[19]?=some f19:=func19
theorem F20:E.P.funcs[20]?=some f20:=func20
theorem F21:E.P.funcs[21]?=some f21:=func21
theorem F23:E.P.funcs[23]?=some f23:=func23
theorem F25:E.P.funcs[25]?=some f25:=func25
theorem F26:E.P.funcs[26]?=some f26:=func26
theorem F28:E.P.funcs[28]?=some f28:=func28
theorem F29:E.P.funcs[29]?=some f29:=func29
theorem F30:E.P.funcs[30]?=some f30:=func30
theorem F33:E.P.funcs[33]?=some f33:=func33
theorem F37:E.P.funcs[37]?=some f37:=func37
theorem F41:E.P.funcs[41]?=some f41:=func41
theorem F42:E.P.funcs[42]?=some f42:=func42
theorem F43:E.P.funcs[43]?=some f43:=func43
theorem F49:E.P.funcs[49]?=some f49:=func49
theorem F51:E.P.funcs[51]?=some f51:=func51
theorem F53:E.P.funcs[53]?=some f53:=func53
theorem F59:E.P.funcs[59]?=some f59:=func59
theorem F62:E.P.funcs[62]?=some f62:=func62
theorem F63:E.P.funcs[63]?=some f63:=func63
theorem F65:E.P.funcs[65]?=some f65:=func65
theorem F69:E.P.funcs[69]?=some f69:=func69
theorem F70:E.P.funcs[70]?=some f70:=func70
theorem F75:E.P.funcs[75]?=some f75:=func75
theorem F77:E.P.funcs[77]?=some f77:=func77
theorem F78:E.P.funcs[78]?=some f78:=func78
theorem F80:E.P.funcs[80]?=some f80:=func80
theorem F83:E.P.funcs[83]?=some f83:=func83
theorem F85:E.P.funcs[85]?=some f85:=func85
theorem F86:E.P.funcs[86]?=some f86:=func86
theorem F89:E.P.funcs[89]?=some f89:=func89
theorem F92:E.P.funcs[92]?=some f92:=func92
theorem F96:E.P.funcs[96]?=some f96:=func96
theorem F99:E.P.funcs[99]?=some f99:=func99
theorem F100:E.P.funcs[100]?=some f100:=func100
theorem F104:E.P.funcs[104]?=some f104:=func104
theorem F105:E.P.funcs[105]?=some f105:=func105
theorem F106:E.P.funcs[106]?=some f106:=func106
theorem F113:E.P.funcs[113]?=some f113:=func113
theorem F119:E.P.funcs[119]?=some f119:=func119
theorem F120:E.P.funcs[120]?=some f120:=func120
theorem F121:E.P.funcs[121]?=some f121:=func121
theorem F122:E.P.funcs[122]?=some f122:=func122
theorem F123:E.P.funcs[123]?=some f123:=func123
theorem F124:E.P.funcs[124]?=some f124:=func124
theorem F125:E.P.funcs[125]?=some f125:=func125
theorem F127:E.P.funcs[127]?=some f127:=func127
theorem F128:E.P.funcs[128]?=some f128:=func128
theorem F133:E.P.funcs[133]?=some f133:=func133
theorem F134:E.P.funcs[134]?=some f134:=func134
theorem F135:E.P.funcs[135]?=some f135:=func135
theorem F136:E.P.funcs[136]?=some f136:=func136
theorem F137:E.P.funcs[137]?=some f137:=func137
theorem F143:E.P.funcs[143]?=some f143:=func143
theorem F147:E.P.funcs[147]?=some f147:=func147
theorem F148:E.P.funcs[148]?=some f148:=func148
theorem F149:E.P.funcs[149]?=some f149:=func149
theorem F154:E.P.funcs[154]?=some f154:=func154
theorem F158:E.P.funcs[158]?=some f158:=func158
theorem F159:E.P.funcs[159]?=some f159:=func159
theorem F160:E.P.funcs[160]?=some f160:=func160
theorem F161:E.P.funcs[161]?=some f161:=func161
theorem F162:E.P.funcs[162]?=some f162:=func162
theorem F164:E.P.funcs[164]?=some f164:=func164
theorem F165:E.P.funcs[165]?=some f165:=func165
theorem F170:E.P.funcs[170]?=some f170:=func170
theorem F187:E.P.funcs[187]?=some f187:=func187
theorem F191:E.P.funcs[191]?=some f191:=func191
theorem F192:E.P.funcs[192]?=some f192:=func192
theorem F193:E.P.funcs[193]?=some f193:=func193
theorem F207:E.P.funcs[207]?=some f207:=func207
theorem F210:E.P.funcs[210]?=some f210:=func210
theorem F211:E.P.funcs[211]?=some f211:=func211
theorem F215:E.P.funcs[215]?=some f215:=func215
theorem F216:E.P.funcs[216]?=some f216:=func216
theorem F226:E.P.funcs[226]?=some f226:=func226
theorem F228:E.P.funcs[228]?=some f228:=func228
end
theorem cY{b:Bool}{A B:Prop}(h:A)(hb:b=true:=by first|decide|assumption):lD b A B:=aJ hb h
theorem cN{b:Bool}{A B:Prop}(h:B)(hb:b=false:=by first|decide|assumption):lD b A B:=aP hb h
end Go.Proofs.YtcmnpelmmekdkaaGreatDoor.P
end
section
namespace Go.Proofs.YtcmnpelmmekdkaaGreatDoor.P
open Go Go.aA
set_option maxRecDepth 100000
theorem z7{f:FuncId}{g:List UInt8->DV}(t:List UInt8)(hb:qN E.P f)(h:∀ (w:World),Calls Tryz.prog f #[.string ⟨t.toArray⟩] w fun e w'=>∃ v,e=.returned v/\(∀ bad w,VD bad w (g t) v)/\Ext w w'):az E f [.str t] (· = g t):=by
 unfold az;refine⟨hb,fun ak w vs _ _ hv=>?_⟩;obtain⟨hl,hv⟩:=hv;obtain⟨v,rfl⟩:∃ v,vs=[v]:=by
  cases vs with
  |nil=>simp at hl
  |cons v r=>cases r with
   |nil=>exact⟨v,rfl⟩
   |cons u r=>simp at hl
 have:=hv 0 (.str t) v rfl rfl;cases this;exact(h w).mono fun e w' ⟨v,h1,h2,h3⟩=>⟨v,_,h1,rfl,h2 _ _,h3⟩
theorem G2{f:FuncId}{g:List UInt8->List UInt8->DV}(t u:List UInt8)(hb:qN E.P f)(h:∀ (w:World),Calls Tryz.prog f #[.string ⟨t.toArray⟩,.string ⟨u.toArray⟩] w fun e w'=>∃ v,e=.returned v/\(∀ bad w,VD bad w (g t u) v)/\Ext w w'):az E f [.str t,.str u] (· = g t u):=by
 unfold az;refine⟨hb,fun ak w vs _ _ hv=>?_⟩;obtain⟨hl,hv⟩:=hv;obtain⟨v1,v2,rfl⟩:∃ v1 v2,vs=[v1,v2]:=by
  match vs,hl with
  |[v1,v2],_=>exact⟨v1,v2,rfl⟩
 have h1:=hv 0 (.str t) v1 rfl rfl;have h2:=hv 1 (.str u) v2 rfl rfl;cases h1;cases h2;exact(h w).mono fun e w' ⟨v,h1,h2,h3⟩=>⟨v,_,h1,rfl,h2 _ _,h3⟩
theorem ki(t:List UInt8):aw ⟨t.toArray⟩=t:=by simp[aw]
theorem size_mk{t:List UInt8}(h:t.length<=maxLen):(ByteArray.mk t.toArray).size<=maxLen:=by simpa [ByteArray.size]using h
theorem lL(t:List UInt8)(ht:t.length<=maxLen):az E 32 [.str t] (· = .bool (Nm.valid t)) :=
 z7 (g:=fun t => .bool (Nm.valid t)) t ⟨_,Tryz.func32,rfl,by decide⟩ fun w=>(U8 ⟨t.toArray⟩ w (size_mk ht)).mono fun e w' ⟨h1,h2⟩=>⟨_,h1,fun _ _=>by rw[ki];exact .bool _,h2⟩
theorem fU(t:List UInt8)(ht:t.length<=maxLen):az E 24 [.str t] (· = .bool (Nm.valid t)) :=
 z7 (g:=fun t => .bool (Nm.valid t)) t ⟨_,Tryz.func24,rfl,by decide⟩ fun w=>(UD ⟨t.toArray⟩ w (size_mk ht)).mono fun e w' ⟨h1,h2⟩=>⟨_,h1,fun _ _=>by rw[ki];exact .bool _,h2⟩
theorem jG(t:List UInt8)(ht:t.length<=maxLen):az E 186 [.str t] (· = .bool (Nm.ic t)) :=
 z7 (g:=fun t => .bool (Nm.ic t)) t ⟨_,Tryz.func186,rfl,by decide⟩ fun w=>(UE ⟨t.toArray⟩ w (size_mk ht)).mono fun e w' ⟨h1,h2⟩=>⟨_,h1,fun _ _=>by rw[ki];exact .bool _,by subst h2;exact Ext.refl _⟩
theorem z8(x a b:Int):az E 166 [.int .i64 x,.int .i64 a,.int .i64 b] (· = .bool (decide (a<=x)&&decide (x<=b))):=by
 refine eP Tryz.func166 ?_;refine ar (fun h=>?_) (fun h=>?_)
 ·refine gO Tryz.func166 ?_;rw[h];rfl
 ·refine gO Tryz.func166 ?_;rw[h];rfl
theorem MC(x a b:Int):az E 245 [.int .u8 x,.int .u8 a,.int .u8 b] (· = .bool (decide (a<=x)&&decide (x<=b))):=by
 refine eP Tryz.func245 ?_;refine ar (fun h=>?_) (fun h=>?_)
 ·refine gO Tryz.func245 ?_;rw[h];rfl
 ·refine gO Tryz.func245 ?_;rw[h];rfl
theorem MD(x:Int):az E 204 [.int .i64 x] (· = .bool false):=by
 refine eP Tryz.func204 ?_;simp
theorem ME(x:List UInt8):az E 246 [.str x] (· = .bool false):=by
 refine eP Tryz.func246 ?_;simp
def gy(a b:Int):Int:=if a<b then -1 else if b<a then 1 else 0
theorem Aa(a b:Int):az E 132 [.int .i64 a,.int .i64 b] (· = .int .i64 (gy a b)):=by
 refine eP Tryz.func132 ?_;repeat' (first|with_reducible refine aj (MD _) ?_|with_reducible refine bl (MD _) ?_|with_reducible refine cY ?_|with_reducible refine cN ?_|with_reducible refine ar (fun _=>?_) (fun _=>?_)|refine gA Tryz.func132 ?_|refine gB ?_|refine gC ?_|with_reducible rfl)
 all_goals (simp_all[gy])
 all_goals omega
def xw(a b:List UInt8):Int:=if Op.bytesLess a b then -1 else if a=b then 0 else 1
theorem Vg(a b:List UInt8):az E 218 [.str a,.str b] (· = .int .i64 (xw a b)):=by
 refine eP Tryz.func218 ?_;repeat' (first|with_reducible refine aj (ME _) ?_|with_reducible refine bl (ME _) ?_|with_reducible refine cY ?_|with_reducible refine cN ?_|with_reducible refine ar (fun _=>?_) (fun _=>?_)|refine gA Tryz.func218 ?_|refine gB ?_|refine gC ?_|with_reducible rfl)
 all_goals (simp_all[xw])
theorem rB{α:Type}{f:α->DV}{l:List α}{k:Nat}{x:α}(hx:l[k]?=some x):(l.map f)[((k:Nat):Int).toNat]?=some (f x):=by
 simp[hx]
theorem bd{α:Type}{l:List α}{k:Nat}(h:k<l.length):∃ x,l[k]?=some x:=⟨l[k],by simp[h]⟩
def oT:List Int->Int
 |[]=>0
 |x::l=>if x=0 then oT l else x
theorem G3{l:List Int}:∀ {k:Nat},(∀ j,j<k->l[j]?=some 0)->oT l=oT (l.drop k)
 |0,_=>rfl
 |k+1,h=>by
  cases l with
  |nil=>rfl
  |cons x l =>
   have h0:=h 0 (by omega);simp at h0;subst h0;simp only[oT,if_true,List.drop_succ_cons];exact G3 fun j hj=>by have:=h (j+1) (by omega);simpa using this
theorem MF(l:List Int)(hl:l.length<=2147483648):az E 131 [.sl (l.map (.int .i64))] (· = .int .i64 (oT l)):=by
 refine eP Tryz.func131 ?_;refine aa.loop (κ:=Nat) ([2,5]++rg 8 9) (fun k=>[(8,.d (.int .i64 k)),(2,.d (.int .i64 0))]) (fun _=>[]) (fun k=>k<=l.length/\∀ j,j<k->l[j]?=some 0) (fun k=>l.length-k) 0 ⟨Nat.zero_le _,fun j h=>by omega⟩ ?_ ?_
 ·exact sZ
 ·intro k hk IH;refine aa.head ag Tryz.func131 2000 ?_;(conv=>whnf);refine ar (fun h1=>?_) (fun h1=>?_)
  ·simp at h1;obtain⟨x,hx⟩:=bd h1;refine gO Tryz.func131 ?_;refine fu (.int .i64 x) (by omega) (rB hx) rfl ?_;refine gO Tryz.func131 ?_;refine ar (fun h2=>?_) (fun h2=>?_)
   ·refine gO Tryz.func131 ?_;have aM:x≠0:=by simpa using h2
    rw[G3 hk.2,List.drop_eq_getElem_cons h1];have:l[k]=x:=by simpa [h1]using hx
    simp only[oT,this,if_neg aM]
   ·refine gO Tryz.func131 ?_;have h0:x=0:=by simpa using h2
    subst h0;refine aa.back (IH (k+1) ⟨by omega,fun j hj=>?_⟩ (by omega)) ?_
    ·rcases Nat.lt_or_ge j k with h|h
     ·exact hk.2 j h
     ·obtain rfl:j=k:=by omega
      exact hx
    ·exact sZ
  ·simp at h1;refine gO Tryz.func131 ?_;rw[G3 hk.2,List.drop_of_length_le h1];rfl
def rC(a b:Datum):Int:=oT [xw a.text b.text,gy a.n b.n,gy a.m b.m]
theorem Vh(a b:Datum):az E 169 [a.enc,b.enc] (· = .int .i64 (rC a b)):=by
 refine eP Tryz.func169 ?_;refine aa.draw ag bU 18 2000 (by kernel_rfl) ?_;conv=>whnf
 with_reducible refine bl (Vg _ _) ?_
 refine gD ?_
 with_reducible refine bl (Aa _ _) ?_
 refine gD ?_
 with_reducible refine bl (Aa _ _) ?_
 refine gD ?_;refine bl (MF [xw a.text b.text,gy a.n b.n,gy a.m b.m] (by simp)) ?_;refine gD ?_;refine gS ?_;refine gO Tryz.func169 ?_;rfl
def preB(a b:List UInt8):Bool:=b.isPrefixOf a
theorem Vi{a b:List UInt8}:(a.take b.length==b)=preB a b:=by
 unfold preB;rw[Bool.eq_iff_iff,beq_iff_eq,List.isPrefixOf_iff_prefix];constructor
 ·intro e;rw[<- e];exact List.take_prefix _ _
 ·intro e;exact(List.prefix_iff_eq_take.1 e).symm
theorem Vj{a b:List UInt8}(h:a.length<b.length):preB a b=false:=by
 unfold preB;rw[Bool.eq_false_iff];intro e;have:=(List.isPrefixOf_iff_prefix.1 e).length_le;omega
theorem Vk(a b:List UInt8):az E 240 [.str a,.str b] (· = .bool (preB a b)):=by
 refine eP Tryz.func240 ?_;refine ar (fun h=>?_) (fun h=>?_)
 ·simp at h;refine gO Tryz.func240 ?_;refine bB ⟨by simp,by simp,by simp;omega⟩ ?_;refine gO Tryz.func240 ?_;simp;exact Vi
 ·simp at h;refine gO Tryz.func240 ?_;rw[Vj h]
theorem MG(a b:List UInt8):az E 205 [.str a,.str b] (· = .bool (preB a b)):=by
 refine eP Tryz.func205 ?_
 with_reducible refine aj (Vk _ _) ?_
 refine gO Tryz.func205 ?_
 with_reducible rfl
theorem MH(a:List UInt8):preB a [42]=Nm.ic a:=by
 cases a with
 |nil=>rfl
 |cons c a =>
  show((42:UInt8)==c&&List.isPrefixOf [] a)=(c==42);simp only[List.isPrefixOf,Bool.and_true];exact BEq.comm
theorem CS(a:List UInt8):az E 167 [.str a] (· = .bool (Nm.ic a)):=by
 refine eP Tryz.func167 ?_
 with_reducible refine aj (MG _ _) ?_
 refine gO Tryz.func167 ?_;exact congrArg _ (MH a)
def oU(c:UInt8):Bool:=(decide (97<=(c.toNat:Int))&&decide ((c.toNat:Int)<=122))||(decide (48<=(c.toNat:Int))&&decide ((c.toNat:Int)<=57))||((c.toNat:Int)==32)
def eV(t:List UInt8):Bool:=decide (1<=(t.length:Int))&&decide ((t.length:Int)<=40) && !(t.head?.any fun c=>(c.toNat:Int)==32) && !(t.getLast?.any fun c=>(c.toNat:Int)==32)&&t.all oU
theorem MI{t:List UInt8}(h1:1<=t.length)(h2:t.length<=40){c0 c1:UInt8}(h3:t[0]?=some c0)(h4:t[t.length-1]?=some c1)(h5:((c0.toNat:Int)==32)=false)(h6:((c1.toNat:Int)==32)=false):eV t=t.all oU:=by
 have e1:t.head?=some c0:=by rw[<- h3];exact List.head?_eq_getElem?
 have e2:t.getLast?=some c1:=by rw[<- h4,List.getLast?_eq_getElem?]
 have e3:decide (1<=(t.length:Int))=true:=by simp;omega
 have e4:decide ((t.length:Int)<=40)=true:=by simp;omega
 simp only[eV,e1,e2,e3,e4,Option.any_some,h5,h6,Bool.not_false,Bool.and_self,Bool.true_and]
theorem okF{a b:Bool}{x y:Int}(h1:(!a)=true)(h2:(!b)=true)(h3:(x != y)=true):(a||b||(x==y))=false:=by
 cases a<;>cases b<;>simp_all
theorem Vl{a b d:Bool}(h:(!a)=false):(a||b||d)=true:=by cases a<;>simp_all
theorem Vm{a b d:Bool}(h:(!b)=false):(a||b||d)=true:=by cases b<;>simp_all
theorem Vn{a b:Bool}{x y:Int}(h:(x != y)=false):(a||b||(x==y))=true:=by simp_all
theorem MJ(t:List UInt8):az E 217 [.str t] (· = .bool (eV t)):=by
 refine eP Tryz.func217 ?_
 with_reducible refine aj (z8 _ _ _) ?_
 refine gO Tryz.func217 ?_;refine ar (fun h1=>?_) (fun h1=>?_)
 ·refine gO Tryz.func217 ?_;refine bq ?_;refine gO Tryz.func217 ?_;refine bq ?_;refine gO Tryz.func217 ?_;have:(decide (1<=(t.length:Int))&&decide ((t.length:Int)<=40))=false:=by rw[Bool.not_eq_true']at h1;exact h1
  simp only[eV,this,Bool.false_and]
 ·have hb:1<=t.length/\t.length<=40:=by simp at h1;omega
  obtain⟨c0,rD⟩:=bd (l:=t) (k:=0) (by omega);obtain⟨c1,jW⟩:=bd (l:=t) (k:=t.length-1) (by omega);have hw:(IntKind.i64.wrap (t.length-1))=((t.length-1:Nat):Int):=by rw[wrap64 (by omega) (by omega)];omega
  refine gO Tryz.func217 ?_;refine uB c0 (by decide) rD ?_;refine gO Tryz.func217 ?_;refine ar (fun h2=>?_) (fun h2=>?_)
  ·refine gO Tryz.func217 ?_;refine bq ?_;refine gO Tryz.func217 ?_;have e1:t.head?=some c0:=by rw[<- rD];exact List.head?_eq_getElem?
   simp only[eV,e1,Option.any_some,h2,Bool.not_true,Bool.and_false,Bool.false_and]
  ·refine gO Tryz.func217 ?_;rw[hw];refine uB c1 (by omega) (by rw[Int.toNat_natCast];exact jW) ?_;refine gO Tryz.func217 ?_;refine ar (fun h3=>?_) (fun h3=>?_)
   ·refine gO Tryz.func217 ?_;have e2:t.getLast?=some c1:=by rw[<- jW,List.getLast?_eq_getElem?]
    simp only[eV,e2,Option.any_some,h3,Bool.not_true,Bool.and_false,Bool.false_and]
   ·rw[MI hb.1 hb.2 rD jW h2 h3];refine gO Tryz.func217 ?_;refine aa.loop (κ:=Nat) ([3,4,2]++rg 24 19) (fun k=>[(24,.d (.int .i64 k))]) (fun _=>[]) (fun k=>k<=t.length/\∀ j c,j<k->t[j]?=some c->oU c=true) (fun k=>t.length-k) 0 ⟨Nat.zero_le _,fun j c h=>by omega⟩ ?_ ?_
    ·exact sZ
    ·intro k hk IH;have no:∀ c,t[k]?=some c->oU c=false->t.all oU=false:=fun c hc h=>by
      rw[Bool.eq_false_iff];intro aX;have:=List.all_eq_true.1 aX c (List.mem_of_getElem? hc);rw[h]at this;cases this
     refine aa.head ag Tryz.func217 2000 ?_;(conv=>whnf);refine ar (fun h4=>?_) (fun h4=>?_)
     ·simp at h4;obtain⟨c,hc⟩:=bd h4;have next:oU c=true->∀ j c',j<k+1->t[j]?=some c'->oU c'=true:=fun ho j c' hj sA=>by
       rcases Nat.lt_or_ge j k with h|h
       ·exact hk.2 j c' h sA
       ·obtain rfl:j=k:=by omega
        rw[hc]at sA;cases sA;exact ho
      refine gO Tryz.func217 ?_;refine uB c (by omega) (by rw[Int.toNat_natCast];exact hc) ?_;refine gO Tryz.func217 ?_
      with_reducible refine aj (MC _ _ _) ?_
      refine gO Tryz.func217 ?_;refine ar (fun h5=>?_) (fun h5=>?_)
      ·refine gO Tryz.func217 ?_
       with_reducible refine aj (MC _ _ _) ?_
       refine gO Tryz.func217 ?_;refine ar (fun h6=>?_) (fun h6=>?_)
       ·refine gO Tryz.func217 ?_;refine ar (fun h7=>?_) (fun h7=>?_)
        ·refine gO Tryz.func217 ?_;rw[no c hc (okF h5 h6 h7)]
        ·refine gO Tryz.func217 ?_;refine aa.back (IH (k+1) ⟨by omega,next (Vn h7)⟩ (by omega)) ?_;exact sZ
       ·refine gO Tryz.func217 ?_;refine aV ?_;refine gO Tryz.func217 ?_;refine aa.back (IH (k+1) ⟨by omega,next (Vm h6)⟩ (by omega)) ?_;exact sZ
      ·refine gO Tryz.func217 ?_;refine aV ?_;refine gO Tryz.func217 ?_;refine aV ?_;refine gO Tryz.func217 ?_;refine aa.back (IH (k+1) ⟨by omega,next (Vl h5)⟩ (by omega)) ?_;exact sZ
     ·simp at h4;refine gO Tryz.func217 ?_;have:t.all oU=true:=by
       rw[List.all_eq_true];intro c hc;obtain⟨j,hj⟩:=List.getElem?_of_mem hc;exact hk.2 j c (by have:=a7 hj;omega) hj
      rw[this]
structure pW where
 text:Int
 MK:Int
 ML:Int
 MM:Int
 MN:Int
 even:Bool
 single:Bool
 ic:Bool
@[reducible] def pW.enc (r : pW) : DV := .agg [.int .i64 r.text, .int .i64 r.MK, .int .i64 r.ML, .int .i64 r.MM, .int .i64 r.MN, .bool r.even, .bool r.single, .bool r.ic]
def fL:Nat->pW
 |1=>⟨0,1,1000000,0,0,false,false,true⟩
 |2=>⟨1,0,0,0,0,false,false,false⟩
 |3=>⟨1,0,0,0,0,false,true,false⟩
 |4=>⟨0,0,65535,0,100000,false,true,false⟩
 |5=>⟨3,0,0,0,0,false,false,true⟩
 |6=>⟨0,1,1000000,1,3,false,false,false⟩
 |7=>⟨0,1,1000000,1,3,false,false,false⟩
 |8=>⟨2,2,510,0,0,true,false,true⟩
 |_=>⟨0,0,0,0,0,false,false,false⟩
def mj(r:pW)(t:Text):Bool:=if r.text=1 then Nm.valid t && !Nm.ic t else if r.text=2 then Nm.valid t else if r.text=3 then eV t else t==[]
def jH(r:pW)(d:Datum):Bool :=
 (decide (r.MK<=d.n)&&decide (d.n<=r.ML))&&(decide (r.MM<=d.m)&&decide (d.m<=r.MN)) && !(r.even&&(d.n.tmod 2 != 0))&&mj r d.text
theorem Vo(r:pW)(d:Datum)(hd:d.text.length<=maxLen):az E 168 [r.enc,d.enc] (· = .bool (jH r d)):=by
 obtain⟨rt,r1,r2,r3,r4,re,rs,rw⟩:=r;refine eP Tryz.func168 ?_;repeat' (first|with_reducible refine aj (z8 _ _ _) ?_|with_reducible refine bl (z8 _ _ _) ?_|with_reducible refine aj (lL _ hd) ?_|with_reducible refine bl (lL _ hd) ?_|with_reducible refine aj (CS _) ?_|with_reducible refine bl (CS _) ?_|with_reducible refine aj (MJ _) ?_|with_reducible refine bl (MJ _) ?_|with_reducible refine cY ?_|with_reducible refine cN ?_|with_reducible refine ar (fun _=>?_) (fun _=>?_)|refine gA Tryz.func168 ?_|refine gB ?_|refine gC ?_|with_reducible rfl)
 all_goals simp_all[jH,mj]
 all_goals (intros;exfalso;omega)
theorem Vp{k:Nat}(h1:1<=k)(h8:k<=8):∃ cs,CP=.agg cs/\(cs.drop (k*8)).take 8=(fL k).enc.cells:=by
 refine⟨_,rfl,?_⟩
 match k,h1,h8 with
 |1,_,_=>rfl
 |2,_,_=>rfl
 |3,_,_=>rfl
 |4,_,_=>rfl
 |5,_,_=>rfl
 |6,_,_=>rfl
 |7,_,_=>rfl
 |8,_,_=>rfl
structure eM.Fits(s:eM):Prop where
 name:s.name.length<=maxLen
 data:s.data.length<=2147483648
 texts:∀ d∈s.data,d.text.length<=maxLen
def ml(r:pW):Option Datum->List Datum->Bool
 |_,[]=>true
 |p,d::l=>jH r d&&(match p with|none=>true|some e=>decide (rC e d<0))&&ml r (some d) l
def lM(l:List Datum)(k:Nat):Option Datum:=if k=0 then none else l[k-1]?
theorem MO{r:pW}{l:List Datum}{k:Nat}{d:Datum}(hd:l[k]?=some d):ml r (lM l k) (l.drop k)=(jH r d&&(match lM l k with|none=>true|some e=>decide (rC e d<0))&&ml r (lM l (k+1)) (l.drop (k+1))):=by
 have hk:=a7 hd;rw[List.drop_eq_getElem_cons hk];have e1:l[k]=d:=by simpa [hk]using hd
 have e2:lM l (k+1)=some d:=by simp[lM,hd]
 rw[e1,e2];rfl
def fg(s:eM):Bool:=Nm.valid s.name&&(decide (1<=s.type)&&decide (s.type<=8))&&(decide (0<=s.jD)&&decide (s.jD<=100000))&&(decide (1<=(s.data.length:Int))&&decide ((s.data.length:Int)<=8)) &&
 !((fL s.type.toNat).single&&((s.data.length:Int) != 1)) && !(Nm.ic s.name && !(fL s.type.toNat).ic)&&ml (fL s.type.toNat) none s.data
theorem CT(s:eM)(hf:s.Fits):az E 108 [s.enc] (· = .bool (fg s)):=by
 refine eP Tryz.func108 ?_;repeat' (first|with_reducible refine aj (lL _ hf.name) ?_|with_reducible refine bl (lL _ hf.name) ?_|with_reducible refine aj (z8 _ _ _) ?_|with_reducible refine bl (z8 _ _ _) ?_|with_reducible refine cY ?_|with_reducible refine cN ?_|with_reducible refine ar (fun _=>?_) (fun _=>?_)|refine gA Tryz.func108 ?_|refine gB ?_|refine gC ?_|with_reducible rfl)
 all_goals try (simp only[Bool.not_eq_true',Bool.not_eq_false',List.length_map]at *;simp only[fg, *,Bool.false_and,Bool.and_false];done)
 rename_i h1 h2 h3 h4;rw[List.length_map]at h4;rw[Bool.not_eq_false']at h1 h2 h3 h4;have ht:1<=s.type/\s.type<=8:=by simpa using h2
 have hl:1<=s.data.length/\s.data.length<=8:=by simp at h4;omega
 obtain⟨t,qI⟩:=Int.eq_ofNat_of_zero_le (a:=s.type) (by omega);obtain⟨cs,lv,MP⟩:=Vp (k:=t) (by omega) (by omega);cases lv;refine SK (fL t).enc (by omega) (by omega) (by decide) (by rw[qI];exact MP) rfl ?_;have cP:fg s=(!((fL t).single&&((s.data.length:Int) != 1)) && !(Nm.ic s.name && !(fL t).ic)&&ml (fL t) none s.data):=by
  simp only[fg,h1,h2,h3,h4,Bool.true_and];rw[qI,Int.toNat_natCast]
 rw[cP];generalize fL t=r;clear cP MP;refine gO Tryz.func108 ?_;repeat' (first|with_reducible refine aj (CS _) ?_|with_reducible refine bl (CS _) ?_|with_reducible refine cY ?_|with_reducible refine cN ?_|with_reducible refine ar (fun _=>?_) (fun _=>?_)|refine gA Tryz.func108 ?_|refine gB ?_|refine gC ?_|with_reducible rfl)
 all_goals try (simp only[List.length_map,Bool.not_eq_true',Bool.not_eq_false']at *;simp only[*,Bool.true_and,Bool.not_true,Bool.not_false,Bool.and_false,Bool.false_and,Bool.and_self];done)
 all_goals
  have fJ:(!(r.single&&((s.data.length:Int) != 1)) && !(Nm.ic s.name && !r.ic)&&ml r none s.data)=ml r none s.data:=by
   try simp only[List.length_map]at *
   simp only[*,Bool.not_true,Bool.not_false,Bool.and_false,Bool.false_and,Bool.and_self,Bool.true_and]
  rw[fJ];clear fJ;refine gO Tryz.func108 ?_;refine aa.loop (κ:=Nat) ([2,4,5]++rg 52 25) (fun k=>[(52,.d (.int .i64 k))]) (fun _=>[]) (fun k=>k<=s.data.length/\ml r none s.data=ml r (lM s.data k) (s.data.drop k)) (fun k=>s.data.length-k) 0 ⟨Nat.zero_le _,rfl⟩ ?_ ?_
  ·exact sZ
  ·intro k hk IH;refine aa.head ag Tryz.func108 2000 ?_;(conv=>whnf);refine ar (fun h5=>?_) (fun h5=>?_)
   ·have ai:k<s.data.length:=by simpa using h5
    obtain⟨d,hd⟩:=bd ai;have bc:=MO (r:=r) hd;rw[<- hk.2]at bc;refine gO Tryz.func108 ?_;refine fu d.enc (by omega) (rB hd) rfl ?_;refine gO Tryz.func108 ?_;refine aa.draw ag bU 19 2000 (by kernel_rfl) ?_;conv=>whnf
    with_reducible refine bl (Vo r d (hf.texts d (List.mem_of_getElem? hd))) ?_
    refine gD ?_;refine ar (fun h6=>?_) (fun h6=>?_)
    ·refine gD ?_;refine gS ?_;refine gO Tryz.func108 ?_;refine bq ?_;refine gO Tryz.func108 ?_;rw[Bool.not_eq_true']at h6;rw[bc,h6,Bool.false_and,Bool.false_and]
    ·rw[Bool.not_eq_false']at h6;refine gD ?_;refine ar (fun h7=>?_) (fun h7=>?_)
     ·have dh:0<k:=by simpa using h7
      obtain⟨e,he⟩:=bd (l:=s.data) (k:=k-1) (by omega);have hw:IntKind.i64.wrap ((k:Int)-1)=((k-1:Nat):Int):=by rw[wrap64 (by omega) (by omega)];omega
      have rE:lM s.data k=some e:=by simp[lM,he];omega
      refine gD ?_;rw[hw];refine fu e.enc (by omega) (rB he) rfl ?_;refine gD ?_
      with_reducible refine bl (Vh _ _) ?_
      refine gD ?_;refine gS ?_;refine gO Tryz.func108 ?_;refine ar (fun h8=>?_) (fun h8=>?_)
      ·refine gO Tryz.func108 ?_;have:decide (rC e d<0)=false:=by simp at h8 ⊢;omega
       rw[bc,rE];dsimp only;rw[this,Bool.and_false,Bool.false_and]
      ·refine gO Tryz.func108 ?_;have:decide (rC e d<0)=true:=by simp at h8 ⊢;omega
       refine aa.back (IH (k+1) ⟨by omega,by rw[bc,rE];dsimp only;rw[this,h6];rfl⟩ (by omega)) ?_;exact sZ
     ·have dh:k=0:=by simp at h7;omega
      have rE:lM s.data k=none:=by simp[lM,dh]
      refine gD ?_;refine gS ?_;refine gO Tryz.func108 ?_;refine aV ?_;refine gO Tryz.func108 ?_;refine aa.back (IH (k+1) ⟨by omega,by rw[bc,rE,h6];rfl⟩ (by omega)) ?_;exact sZ
   ·have aL:s.data.length<=k:=by simpa using h5
    refine gO Tryz.func108 ?_;rw[hk.2,List.drop_of_length_le aL];rfl
theorem dF{l:Text}(h:Nm.valid l=true):l.length<=60:=by
 simp only[Nm.valid,Bool.or_eq_true,decide_eq_true_eq,Bool.and_eq_true]at h;rcases h with rfl|h
 ·simp
 ·exact h.1
theorem Vq{r:pW}{t:Text}(h:mj r t=true):t.length<=60:=by
 unfold mj at h;split at h
 ·simp at h;exact dF h.1
 ·split at h
  ·exact dF h
  ·split at h
   ·simp[eV]at h;omega
   ·simp at h;simp[h]
theorem CU{r:pW}:∀ {p:Option Datum} {l:List Datum},ml r p l=true->∀ d∈l,jH r d=true
 |_,[],_,d,hd=>by simp at hd
 |p,e::l,h,d,hd=>by
  simp only[ml,Bool.and_eq_true]at h;rcases List.mem_cons.1 hd with rfl|hd
  ·exact h.1.1
  ·exact CU h.2 d hd
theorem rF{s:eM}(h:fg s=true):s.name.length<=60/\s.data.length<=8/\1<=s.data.length/\∀ d∈s.data,d.text.length<=60:=by
 simp only[fg,Bool.and_eq_true,decide_eq_true_eq]at h;obtain⟨⟨⟨⟨⟨⟨h1,h2⟩,h3⟩,h4⟩,h5⟩,h6⟩,h7⟩:=h;refine⟨dF h1,by omega,by omega,fun d hd=>?_⟩;have:=CU h7 d hd;simp only[jH,Bool.and_eq_true]at this;exact Vq this.2
theorem ey{α:Type}{l:List α}{k:Nat}{x:α}(h:l[k]?=some x):l.take (k+1)=l.take k++[x]:=by
 rw[List.take_add_one,h];rfl
theorem Ab(t z:Text)(ht:t.length<=maxLen)(hz:z.length<=maxLen):az E 91 [.str t,.str z] (· = .aK [.bool (Nm.mY t z),.int .i64 (if Nm.valid t&&Nm.valid z then 0 else 11)]) :=
 G2 (g:=fun t z => .aK [.bool (Nm.mY t z),.int .i64 (if Nm.valid t&&Nm.valid z then 0 else 11)]) t z ⟨_,Tryz.func91,rfl,by decide⟩ fun w=>(Vd ⟨t.toArray⟩ ⟨z.toArray⟩ w (size_mk ht) (size_mk hz)).mono fun e w' ⟨h1,h2⟩=>⟨_,h1,fun _ _=>by
  simp only[ki]
  exact .aK _ _ rfl (fun j x v hx hv=>by
   match j with
   |0=>simp at hx hv;subst hx;subst hv;exact .bool _
   |1=>simp at hx hv;subst hx;subst hv;exact .int _ _
   |j+2=>simp at hx),h2⟩
def Vr(k:Key):Bool:=decide (k.n>=1)&&decide (k.n<=1000000)&&decide (k.pU>=1)&&decide (k.pU<=3)
def Vs(a b:Int):Bool:=decide (a>=0)&&decide (a<=b)&&decide (b<=20000000)
def Vt(s:eM)(aC:Text)(k:Key)(ry upto:Int):Bool:=Vr k&&Vs ry upto&&Nm.valid aC && !Nm.ic aC&&fg s&&Nm.mY s.name aC
def CV:iS:=⟨[],0,0,0,0,0⟩
theorem iV{α:Type}{p:α->Bool}{l:List α}{k:Nat}{x:α}(h:l[k]?=some x)(hx:p x=false):l.all p=false:=by
 rw[Bool.eq_false_iff];intro aX;have:=List.all_eq_true.1 aX x (List.mem_of_getElem? h);rw[hx]at this;cases this
theorem jI{α:Type}{p:α->Bool}{l:List α}{k:Nat}{x:α}(hk:(l.take k).all p=true)(h:l[k]?=some x)(hx:p x=true):(l.take (k+1)).all p=true:=by
 rw[ey h,List.all_append,hk];simp[hx]
theorem nW{α:Type}{p:α->Bool}{l:List α}{k:Nat}(hk:(l.take k).all p=true)(h:l.length<=k):l.all p=true:=by
 rwa [List.take_of_length_le h]at hk
theorem jJ(x a b:Int):az E 184 [.int .i64 x,.int .i64 a,.int .i64 b] (· = .bool (decide (a<=x)&&decide (x<=b))):=by
 refine eP Tryz.func184 ?_;repeat' (first|with_reducible(first|refine cY ?_|refine cN ?_|refine ar (fun _=>?_) (fun _=>?_))|refine gA Tryz.func184 ?_|refine gB ?_|refine gC ?_|with_reducible rfl)
 all_goals simp_all
 all_goals omega
theorem M7(t:Int):az E 185 [.int .i64 t] (· = .bool (t==3||t==4)):=by
 refine eP Tryz.func185 ?_;repeat' (first|with_reducible(first|refine cY ?_|refine cN ?_|refine ar (fun _=>?_) (fun _=>?_))|refine gA Tryz.func185 ?_|refine gB ?_|refine gC ?_|with_reducible rfl)
 all_goals simp_all
def CY(a b:Datum):Bool:=if a.text≠b.text then Op.bytesLess a.text b.text else if a.n≠b.n then decide (a.n<b.n)else decide (a.m<b.m)
theorem V'(a b:Datum):az E 188 [a.enc,b.enc] (· = .bool (CY a b)):=by
 refine eP Tryz.func188 ?_;repeat' (first|with_reducible(first|refine cY ?_|refine cN ?_|refine ar (fun _=>?_) (fun _=>?_))|refine gA Tryz.func188 ?_|refine gB ?_|refine gC ?_|with_reducible rfl)
 all_goals simp_all[CY]
theorem kS(t:Text):az E 226 [.str t] (· = .bool (eV t)):=by
 by_cases hb:1<=t.length/\t.length<=40
 ·obtain⟨c0,rD⟩:=bd (l:=t) (k:=0) (by omega);obtain⟨c1,jW⟩:=bd (l:=t) (k:=t.length-1) (by omega);have hw:(IntKind.i64.wrap (t.length-1))=((t.length-1:Nat):Int):=by rw[wrap64 (by omega) (by omega)];omega
  refine eP F226 ?_;refine aP (by simp;omega) ?_;refine gO F226 ?_;refine aP (by simp;omega) ?_;refine gO F226 ?_;refine uB c0 (by decide) rD ?_;refine gO F226 ?_;refine ar (fun h2=>?_) (fun h2=>?_)
  ·refine gO F226 ?_;refine bq ?_;refine gO F226 ?_;have e1:t.head?=some c0:=by rw[<- rD];exact List.head?_eq_getElem?
   simp only[eV,e1,Option.any_some,h2,Bool.not_true,Bool.and_false,Bool.false_and]
  ·refine gO F226 ?_;rw[hw];refine uB c1 (by omega) (by rw[Int.toNat_natCast];exact jW) ?_;refine gO F226 ?_;refine ar (fun h3=>?_) (fun h3=>?_)
   ·refine gO F226 ?_;have e2:t.getLast?=some c1:=by rw[<- jW,List.getLast?_eq_getElem?]
    simp only[eV,e2,Option.any_some,h3,Bool.not_true,Bool.and_false,Bool.false_and]
   ·rw[MI hb.1 hb.2 rD jW h2 h3];refine gO F226 ?_;refine aa.loop (κ:=Nat) ([2,4,5]++rg 26 26) (fun k=>[(4,.d (.int .i64 k))]) (fun _=>[]) (fun k=>k<=t.length/\(t.take k).all oU=true) (fun k=>t.length-k) 0 ⟨Nat.zero_le _,rfl⟩ ?_ ?_
    ·exact sZ
    ·intro k hk IH;refine aa.head ag F226 2000 ?_;(conv=>whnf);refine ar (fun h4=>?_) (fun h4=>?_)
     ·simp at h4;obtain⟨c,hc⟩:=bd h4;refine gO F226 ?_;refine uB c (by omega) (by rw[Int.toNat_natCast];exact hc) ?_;refine gO F226 ?_;repeat' (first|with_reducible(first|refine cY ?_|refine cN ?_|refine ar (fun _=>?_) (fun _=>?_))|refine gA F226 ?_|refine gB ?_|refine gC ?_|with_reducible rfl)
      all_goals first
       |(rw[iV hc (by simp_all[oU]<;>omega)];done)
       |skip
      all_goals
       refine gO F226 ?_;refine aa.back (IH (k+1) ⟨by omega,jI hk.2 hc (by simp_all[oU]<;>omega)⟩ (by omega)) ?_;exact sZ
     ·simp at h4;refine gO F226 ?_;rw[nW hk.2 h4]
 ·have dR:eV t=false:=by
   simp only[eV,Bool.and_eq_false_iff,decide_eq_false_iff_not];omega
  rw[dR];refine eP F226 ?_;refine ar (fun h=>?_) (fun h=>?_)
  ·refine gO F226 ?_;refine bq ?_;refine gO F226 ?_;refine bq ?_;refine gO F226 ?_;refine bq ?_;refine gO F226 ?_
   with_reducible rfl
  ·simp at h;refine gO F226 ?_;refine aJ (by simp;omega) ?_;refine gO F226 ?_;refine bq ?_;refine gO F226 ?_;refine bq ?_;refine gO F226 ?_
   with_reducible rfl
theorem ta(n:Int):(n==0)=(decide (0<=n)&&decide (n<=0)):=by
 rw[Bool.eq_iff_iff];simp;omega
theorem Wa(k:Nat)(d:Datum)(hk:1<=k/\k<=8)(hd:d.text.length<=maxLen):az E 187 [.int .i64 k,d.enc] (· = .bool (jH (fL k) d)):=by
 match k,hk with
 |1,_ =>
  refine eP F187 ?_;repeat' (first|with_reducible(first|refine aj (jJ _ _ _) ?_|refine bl (jJ _ _ _) ?_|refine aj (fU _ hd) ?_|refine bl (fU _ hd) ?_|refine aj (jG _ hd) ?_|refine bl (jG _ hd) ?_|refine aj (kS _) ?_|refine bl (kS _) ?_|refine cY ?_|refine cN ?_|refine ar (fun _=>?_) (fun _=>?_))|refine gA F187 ?_|refine gB ?_|refine gC ?_|with_reducible rfl)
  all_goals simp_all[jH,mj,fL]
  all_goals first|omega|exact ta _
 |2,_ =>
  refine eP F187 ?_;repeat' (first|with_reducible(first|refine aj (jJ _ _ _) ?_|refine bl (jJ _ _ _) ?_|refine aj (fU _ hd) ?_|refine bl (fU _ hd) ?_|refine aj (jG _ hd) ?_|refine bl (jG _ hd) ?_|refine aj (kS _) ?_|refine bl (kS _) ?_|refine cY ?_|refine cN ?_|refine ar (fun _=>?_) (fun _=>?_))|refine gA F187 ?_|refine gB ?_|refine gC ?_|with_reducible rfl)
  all_goals simp_all[jH,mj,fL]
  all_goals first|omega|exact ta _
 |3,_ =>
  refine eP F187 ?_;repeat' (first|with_reducible(first|refine aj (jJ _ _ _) ?_|refine bl (jJ _ _ _) ?_|refine aj (fU _ hd) ?_|refine bl (fU _ hd) ?_|refine aj (jG _ hd) ?_|refine bl (jG _ hd) ?_|refine aj (kS _) ?_|refine bl (kS _) ?_|refine cY ?_|refine cN ?_|refine ar (fun _=>?_) (fun _=>?_))|refine gA F187 ?_|refine gB ?_|refine gC ?_|with_reducible rfl)
  all_goals simp_all[jH,mj,fL]
  all_goals first|omega|exact ta _
 |4,_ =>
  refine eP F187 ?_;repeat' (first|with_reducible(first|refine aj (jJ _ _ _) ?_|refine bl (jJ _ _ _) ?_|refine aj (fU _ hd) ?_|refine bl (fU _ hd) ?_|refine aj (jG _ hd) ?_|refine bl (jG _ hd) ?_|refine aj (kS _) ?_|refine bl (kS _) ?_|refine cY ?_|refine cN ?_|refine ar (fun _=>?_) (fun _=>?_))|refine gA F187 ?_|refine gB ?_|refine gC ?_|with_reducible rfl)
  all_goals simp_all[jH,mj,fL]
  all_goals first|omega|exact ta _
 |5,_ =>
  refine eP F187 ?_;repeat' (first|with_reducible(first|refine aj (jJ _ _ _) ?_|refine bl (jJ _ _ _) ?_|refine aj (fU _ hd) ?_|refine bl (fU _ hd) ?_|refine aj (jG _ hd) ?_|refine bl (jG _ hd) ?_|refine aj (kS _) ?_|refine bl (kS _) ?_|refine cY ?_|refine cN ?_|refine ar (fun _=>?_) (fun _=>?_))|refine gA F187 ?_|refine gB ?_|refine gC ?_|with_reducible rfl)
  all_goals simp_all[jH,mj,fL]
  all_goals first|omega|exact ta _
 |6,_ =>
  refine eP F187 ?_;repeat' (first|with_reducible(first|refine aj (jJ _ _ _) ?_|refine bl (jJ _ _ _) ?_|refine aj (fU _ hd) ?_|refine bl (fU _ hd) ?_|refine aj (jG _ hd) ?_|refine bl (jG _ hd) ?_|refine aj (kS _) ?_|refine bl (kS _) ?_|refine cY ?_|refine cN ?_|refine ar (fun _=>?_) (fun _=>?_))|refine gA F187 ?_|refine gB ?_|refine gC ?_|with_reducible rfl)
  all_goals simp_all[jH,mj,fL]
  all_goals first|omega|exact ta _
 |7,_ =>
  refine eP F187 ?_;repeat' (first|with_reducible(first|refine aj (jJ _ _ _) ?_|refine bl (jJ _ _ _) ?_|refine aj (fU _ hd) ?_|refine bl (fU _ hd) ?_|refine aj (jG _ hd) ?_|refine bl (jG _ hd) ?_|refine aj (kS _) ?_|refine bl (kS _) ?_|refine cY ?_|refine cN ?_|refine ar (fun _=>?_) (fun _=>?_))|refine gA F187 ?_|refine gB ?_|refine gC ?_|with_reducible rfl)
  all_goals simp_all[jH,mj,fL]
  all_goals first|omega|exact ta _
 |8,_ =>
  refine eP F187 ?_;repeat' (first|with_reducible(first|refine aj (jJ _ _ _) ?_|refine bl (jJ _ _ _) ?_|refine aj (fU _ hd) ?_|refine bl (fU _ hd) ?_|refine aj (jG _ hd) ?_|refine bl (jG _ hd) ?_|refine aj (kS _) ?_|refine bl (kS _) ?_|refine cY ?_|refine cN ?_|refine ar (fun _=>?_) (fun _=>?_))|refine gA F187 ?_|refine gB ?_|refine gC ?_|with_reducible rfl)
  all_goals simp_all[jH,mj,fL]
  all_goals first|omega|exact ta _
theorem mn:∀ (a:Text),Op.bytesLess a a=false
 |[]=>rfl
 |c::a=>by simp[Op.bytesLess,mn a]
theorem Wb(a b:Datum):CY a b=decide (rC a b<0):=by
 unfold CY rC;by_cases h1:a.text=b.text
 ·simp only[h1,ne_eq,not_true_eq_false,if_false,xw,mn,Bool.false_eq_true,oT,if_true,gy];by_cases h2:a.n=b.n
  ·simp only[h2,not_true_eq_false,if_false,Int.lt_irrefl,if_true];rw[Bool.eq_iff_iff];simp only[decide_eq_true_eq];repeat' split
   all_goals omega
  ·simp only[h2,not_false_eq_true,if_true];rw[Bool.eq_iff_iff];simp only[decide_eq_true_eq];repeat' split
   all_goals omega
 ·simp only[h1,ne_eq,not_false_eq_true,if_true,xw,oT];cases h:Op.bytesLess a.text b.text
  ·simp[h1]
  ·simp
theorem Wc{k:Nat}(h:1<=k/\k<=8):(fL k).single=((k:Int)==3||(k:Int)==4):=by
 match k,h with
 |1,_=>rfl
 |2,_=>rfl
 |3,_=>rfl
 |4,_=>rfl
 |5,_=>rfl
 |6,_=>rfl
 |7,_=>rfl
 |8,_=>rfl
theorem Wd{k:Nat}(h:1<=k/\k<=8):(!(fL k).ic)=((k:Int) != 1&&(k:Int) != 5&&(k:Int) != 8):=by
 match k,h with
 |1,_=>rfl
 |2,_=>rfl
 |3,_=>rfl
 |4,_=>rfl
 |5,_=>rfl
 |6,_=>rfl
 |7,_=>rfl
 |8,_=>rfl
end Go.Proofs.YtcmnpelmmekdkaaGreatDoor.P
end
section
namespace Go.Proofs.YtcmnpelmmekdkaaGreatDoor.P
open Go Go.aA
set_option maxRecDepth 100000
set_option maxHeartbeats 4000000
theorem We(s:eM):fg s=(Nm.valid s.name&&(decide (1<=s.type)&&decide (s.type<=8))&&(decide (0<=s.jD)&&decide (s.jD<=100000))&&(decide (1<=(s.data.length:Int))&&decide ((s.data.length:Int)<=8)) &&
  !((s.type==3||s.type==4)&&decide ((s.data.length:Int)>1)) && !(Nm.ic s.name&&(s.type != 1&&s.type != 5&&s.type != 8))&&ml (fL s.type.toNat) none s.data):=by
 by_cases ht:1<=s.type/\s.type<=8
 ·by_cases hn:1<=(s.data.length:Int)
  ·obtain⟨t,qI⟩:=Int.eq_ofNat_of_zero_le (a:=s.type) (by omega);have h8:1<=t/\t<=8:=by omega
   have e1:=Wc h8;have e2:=Wd h8;have e3:((s.data.length:Int) != 1)=decide ((s.data.length:Int)>1):=by
    rw[Bool.eq_iff_iff];simp;omega
   simp only[fg,qI,Int.toNat_natCast,e1,e2,e3]
  ·simp[fg,hn]
 ·simp only[fg];have:(decide (1<=s.type)&&decide (s.type<=8))=false:=by
   rw[Bool.and_eq_false_iff];simp;omega
  simp only[this,Bool.and_false,Bool.false_and]
theorem Wf(k:Int)(d:Datum)(hk:1<=k/\k<=8)(hd:d.text.length<=maxLen):az E 187 [.int .i64 k,d.enc] (· = .bool (jH (fL k.toNat) d)):=by
 obtain⟨t,rfl⟩:=Int.eq_ofNat_of_zero_le (a:=k) (by omega);rw[Int.toNat_natCast];exact Wa t d (by omega) hd
theorem CZ(s:eM)(hf:s.Fits):az E 119 [s.enc] (· = .bool (fg s)):=by
 rw[We];refine eP F119 ?_;repeat' (first|with_reducible(first|refine aj (fU _ hf.name) ?_|refine bl (fU _ hf.name) ?_|refine aj (jJ _ _ _) ?_|refine bl (jJ _ _ _) ?_|refine aj (M7 _) ?_|refine bl (M7 _) ?_|refine aj (jG _ hf.name) ?_|refine bl (jG _ hf.name) ?_|refine cY ?_|refine cN ?_|refine ar (fun _=>?_) (fun _=>?_))|refine gA F119 ?_|refine gB ?_|refine gC ?_|with_reducible rfl)
 all_goals try simp only[List.length_map]at *
 all_goals try (simp only[Bool.not_eq_true',Bool.not_eq_false']at *;simp only[*,Bool.false_and,Bool.and_false,Bool.true_and,Bool.not_true,Bool.not_false,Bool.and_true,Bool.and_self];done)
 all_goals
  have fJ:∀ {a b c d e f:Bool},(!a)=false->(!b)=false->(!c)=false->(!d)=false->e=false->f=false->∀ g:Bool,(a&&b&&c&&d && !e && !f&&g)=g:=fun h1 h2 h3 h4 h5 h6 g=>by
   simp_all
  have M8:1<=s.type/\s.type<=8:=by simp_all
  have hl:s.data.length<=8:=by simp_all<;>omega
  rw[fJ (by assumption) (by assumption) (by assumption) (by assumption) (by simp_all<;>omega) (by simp_all) _];clear fJ;refine gO F119 ?_;refine aa.loop (κ:=Nat) ([2,4]++rg 56 33) (fun k=>[(4,.d (.int .i64 k))]) (fun _=>[]) (fun k=>k<=s.data.length/\ml (fL s.type.toNat) none s.data=ml (fL s.type.toNat) (lM s.data k) (s.data.drop k)) (fun k=>s.data.length-k) 0 ⟨Nat.zero_le _,rfl⟩ ?_ ?_
  ·exact sZ
  ·intro k hk IH;refine aa.head ag F119 2000 ?_;(conv=>whnf);refine ar (fun h5=>?_) (fun h5=>?_)
   ·have ai:k<s.data.length:=by simpa using h5
    obtain⟨d,hd⟩:=bd ai;have bc:=MO (r:=fL s.type.toNat) hd;rw[<- hk.2]at bc;refine gO F119 ?_;refine aa.draw ag bU 28 2000 (by kernel_rfl) ?_;(conv=>whnf);refine fu d.enc (by omega) (rB hd) rfl ?_;refine gD ?_
    with_reducible refine bl (Wf _ d M8 (hf.texts d (List.mem_of_getElem? hd))) ?_
    refine gD ?_;refine ar (fun h6=>?_) (fun h6=>?_)
    ·refine gD ?_;refine gS ?_;refine gO F119 ?_;refine bq ?_;refine gO F119 ?_;rw[Bool.not_eq_true']at h6;rw[bc,h6,Bool.false_and,Bool.false_and]
    ·rw[Bool.not_eq_false']at h6;refine gD ?_;refine ar (fun h7=>?_) (fun h7=>?_)
     ·have dh:0<k:=by simpa using h7
      obtain⟨e,he⟩:=bd (l:=s.data) (k:=k-1) (by omega);have hw:IntKind.i64.wrap ((k:Int)-1)=((k-1:Nat):Int):=by rw[wrap64 (by omega) (by omega)];omega
      have rE:lM s.data k=some e:=by simp[lM,he];omega
      refine gD ?_;rw[hw];refine fu e.enc (by omega) (rB he) rfl ?_;refine gD ?_;refine fu d.enc (by omega) (rB hd) rfl ?_;refine gD ?_
      with_reducible refine bl (V' _ _) ?_
      refine gD ?_;rw[Wb];refine gS ?_;refine gO F119 ?_;refine ar (fun h8=>?_) (fun h8=>?_)
      ·refine gO F119 ?_;have:decide (rC e d<0)=false:=by simpa using h8
       rw[bc,rE];dsimp only;rw[this,Bool.and_false,Bool.false_and]
      ·refine gO F119 ?_;have:decide (rC e d<0)=true:=by simpa using h8
       refine aa.back (IH (k+1) ⟨by omega,by rw[bc,rE];dsimp only;rw[this,h6];rfl⟩ (by omega)) ?_;exact sZ
     ·have dh:k=0:=by simp at h7;omega
      have rE:lM s.data k=none:=by simp[lM,dh]
      refine gD ?_;refine gS ?_;refine gO F119 ?_;refine aV ?_;refine gO F119 ?_;refine aa.back (IH (k+1) ⟨by omega,by rw[bc,rE,h6];rfl⟩ (by omega)) ?_;exact sZ
   ·have aL:s.data.length<=k:=by simpa using h5
    refine gO F119 ?_;rw[hk.2,List.drop_of_length_le aL];rfl
def Wg:eM:=⟨[97,46,120],1,5,[⟨[],7,0⟩]⟩
def Wh:Key:=⟨3,1⟩
theorem rH:Vt Wg [120] Wh 10 20=true:=by decide +kernel
theorem M9(t:Text):(Nm.split t).length<=t.length+1:=by
 induction t with
 |nil=>simp[Nm.split]
 |cons c r ih =>
  by_cases hc:c=46
  ·subst hc;simp[Nm.split];omega
  ·obtain⟨x,u,h1,h2⟩:=Nm.rv c r hc;rw[h2];rw[h1]at ih;simp at ih ⊢;omega
theorem Wi(t:Text):∀ x∈Nm.split t,x.length<=t.length:=by
 induction t with
 |nil=>simp[Nm.split]
 |cons c r ih =>
  intro x hx;by_cases hc:c=46
  ·subst hc;simp only[Nm.split,if_true]at hx;rcases List.mem_cons.1 hx with rfl|hx
   ·simp
   ·have:=ih x hx;simp;omega
  ·obtain⟨y,u,h1,h2⟩:=Nm.rv c r hc;rw[h2]at hx;rw[h1]at ih;rcases List.mem_cons.1 hx with rfl|hx
   ·have:=ih y (List.mem_cons_self ..);simp;omega
   ·have:=ih x (List.mem_cons_of_mem _ hx);simp;omega
theorem M'(t:Text)(ht:t.length<=1000):az E 49 [.str t] (· = .sl ((Nm.split t).map .str)):=by
 refine az.run ag (fn:=Tryz.f49) Tryz.func49 (body:=Tryz.f49.body.getD .skip) rfl (by decide) 6 ?_;(conv=>whnf);refine aa.kQ ag rfl ?_;refine gO F49 ?_;refine aa.loop (κ:=Nat) ([3,4]++rg 6 30) (fun k=>[(4,.d (.int .i64 k)),(3,.own 0 1)]) (fun k=>[(0,.arr 1 (9,1) ((Nm.split (t.take k)).map .str))]) (fun k=>k<=t.length) (fun k=>t.length-k) 0 (Nat.zero_le _) ?_ ?_
 ·(conv=>whnf);repeat (first|exact trivial|(refine sI ?_;conv=>whnf))
  refine And.intro (by simp[Nm.split]) ?_;exact sZ
 ·intro k hk IH;have hlen:=M9 (t.take k);rw[List.length_take]at hlen;refine aa.head ag F49 2000 ?_;(conv=>whnf);refine ar (fun h1=>?_) (fun h1=>?_)
  ·have ai:k<t.length:=by simpa using h1
   obtain⟨c,hc⟩:=bd ai;refine gO F49 ?_;refine uB c (by omega) (by rw[Int.toNat_natCast];exact hc) ?_;refine gO F49 ?_;refine ar (fun h2=>?_) (fun h2=>?_)
   ·have Hb:c=46:=by
     have:(c.toNat:Int)=46:=by simpa using h2
     exact UInt8.toNat_inj.1 (by simp;omega)
    refine gO F49 ?_;refine bB ⟨by simp;omega,by simp[DV.cells]⟩ ?_;refine gO F49 ?_;refine aa.back (IH (k+1) (by omega) (by omega)) ?_;(conv=>whnf);repeat (first|exact trivial|(refine sI ?_;conv=>whnf))
    refine And.intro (by rw[Nm.LZ t k c hc Hb];simp) ?_;exact sZ
   ·have Hb:c≠46:=by rintro rfl;simp at h2
    obtain⟨i,x,e1⟩:∃ i x,Nm.split (t.take k)=i++[x]:=⟨_,_,(List.dropLast_concat_getLast (Nm.nR _)).symm⟩;have aT:=Nm.L3 t k c hc Hb i x e1;rw[e1]at hlen ⊢;have hw:IntKind.i64.wrap ((((i++[x]).map DV.str).length:Int)-1)=(i.length:Int):=by
     rw[wrap64 (by simp) (by simp;simp at hlen;omega)];simp
    refine gO F49 ?_;refine aa.draw ag bU 17 2000 (by kernel_rfl) ?_;(conv=>whnf);rw[hw];have dN:((i++[x]).map DV.str)[((i.length:Nat):Int).toNat]?=some (.str x):=by simp
    have Na:(List.drop (Int.toNat (k:Int)) (List.take (IntKind.i64.wrap ((k:Int)+1)).toNat t))=[c]:=by
     rw[wrap64 (by omega) (by omega),show((k:Int)+1).toNat=k+1 by omega,Int.toNat_natCast,ey hc];simp[Nat.min_eq_left (Nat.le_of_lt ai)]
    refine bB ⟨by omega,by simp;omega⟩ ?_;refine gD ?_;refine fu (.str x) (by omega) dN rfl ?_;refine gD ?_;have ea:IntKind.i64.wrap ((k:Int)+1)=(k:Int)+1:=wrap64 (by omega) (by omega);refine bB ⟨by simp,by simp[ea];omega,by simp[ea];omega⟩ ?_;refine gD ?_;have iT:x.length<=1000:=by
     have:=Wi (t.take k) x (by rw[e1];simp);simp at this;omega
    simp only[Option.getD_some];rw[Na];refine bB (by simp;omega) ?_;refine gD ?_;refine bB ⟨by omega,by simp;omega⟩ ?_;refine gD ?_;refine gS ?_;refine fu (.str x) (by omega) dN rfl ?_;refine gS ?_;refine gO F49 ?_;refine aa.back (IH (k+1) (by omega) (by omega)) ?_;(conv=>whnf);repeat (first|exact trivial|(refine sI ?_;conv=>whnf))
    refine And.intro (by rw[aT];simp[List.set_append_right]) ?_;exact sZ
  ·have aL:k=t.length:=by simp at h1;omega
   subst aL;refine gO F49 ?_;simp
theorem Ag(t:Text)(ht:t.length<=1000):az E 47 [.str t] (· = .sl ((Nm.labels t).map .str)):=by
 refine az.norm ?_;refine eP Tryz.func47 ?_;repeat' (first|with_reducible(first|refine aj (M' _ ht) ?_|refine bl (M' _ ht) ?_|refine cY ?_|refine cN ?_|refine ar (fun _=>?_) (fun _=>?_))|refine gA Tryz.func47 ?_|refine gB ?_|refine gC ?_|with_reducible rfl)
 all_goals simp_all[Nm.labels,norm]
theorem pY(t z:Text)(ht:t.length<=1000)(hz:z.length<=1000):az E 157 [.str t,.str z] (· = .bool (Nm.under t z)) :=
 G2 (g:=fun t z => .bool (Nm.under t z)) t z ⟨_,Tryz.func157,rfl,by decide⟩ fun w=>(UF ⟨t.toArray⟩ ⟨z.toArray⟩ w (by simpa [ByteArray.size]using ht) (by simpa [ByteArray.size]using hz)).mono fun e w' ⟨h1,h2⟩=>⟨_,h1,fun _ _=>by
  simp only[ki]
  exact .bool _,h2⟩
def rI(t:Text):Bool:=match Nm.labels t with
 |[]=>false
 |x::_=>x==[42]
theorem Hc(t:Text)(ht:t.length<=1000):az E 118 [.str t] (· = .bool (rI t)):=by
 unfold rI;refine eP Tryz.func118 ?_
 with_reducible refine aj (Ag _ ht) ?_
 refine gO Tryz.func118 ?_;cases hl:Nm.labels t with
 |nil =>
  refine aP (by simp) ?_;refine gO Tryz.func118 ?_
  with_reducible rfl
 |cons x l =>
  refine aJ (by simp) ?_;refine gO Tryz.func118 ?_;refine fu (.str x) (by decide) rfl rfl ?_;refine gO Tryz.func118 ?_
  with_reducible rfl
def cmpL:List Text->List Text->Int
 |[],[]=>0
 |[],_::_ => -1
 |_::_,[]=>1
 |x::l,y::m=>if Op.bytesLess x y then -1 else if x==y then cmpL l m else 1
def bC(a b:Text):Int:=cmpL (Nm.labels a).reverse (Nm.labels b).reverse
theorem rev_at{α:Type}{l:List α}{k:Nat}(hk:k<l.length):∃ x,l[l.length-(k+1)]?=some x/\l.reverse.drop k=x::l.reverse.drop (k+1):=by
 have h1:l.length-(k+1)<l.length:=by omega
 refine⟨l[l.length-(k+1)],by simp[h1],?_⟩;rw[List.drop_eq_getElem_cons (by simpa using hk)]
 congr 1
 simp only[List.getElem_reverse]
 congr 1
 omega
theorem Nb(t:Text):(Nm.labels t).length<=t.length+1:=by
 unfold Nm.labels;split
 ·simp
 ·exact M9 t
theorem Ah(a b:Text)(ha:a.length<=1000)(hb:b.length<=1000):az E 20 [.str a,.str b] (· = .int .i64 (bC a b)):=by
 have hla:=Nb a;have mi:=Nb b;unfold bC;refine eP F20 ?_
 with_reducible refine aj (Ag _ ha) ?_
 refine gO F20 ?_
 with_reducible refine aj (Ag _ hb) ?_
 refine gO F20 ?_;generalize Nm.labels a=l at *;generalize Nm.labels b=m at *;refine aa.loop (κ:=Nat) ([4,7,8,9]++rg 14 32) (fun k=>[(7,.d (.int .i64 (k+1)))]) (fun _=>[]) (fun k=>k<=l.length/\k<=m.length/\cmpL l.reverse m.reverse=cmpL (l.reverse.drop k) (m.reverse.drop k)) (fun k=>l.length-k) 0 ⟨Nat.zero_le _,Nat.zero_le _,rfl⟩ ?_ ?_
 ·exact sZ
 ·intro k hk IH;refine aa.head ag F20 2000 ?_;(conv=>whnf);refine ar (fun h1=>?_) (fun h1=>?_)
  ·refine gO F20 ?_;refine ar (fun h2=>?_) (fun h2=>?_)
   ·have gr:k<l.length:=by simp at h1;omega
    have Ai:k<m.length:=by simp at h2;omega
    obtain⟨x,hx,xz⟩:=rev_at gr;obtain⟨y,hy,tc⟩:=rev_at Ai;have C0:IntKind.i64.wrap ((l.length:Int)-(k+1))=((l.length-(k+1):Nat):Int):=by rw[wrap64 (by omega) (by omega)];omega
    have GR:IntKind.i64.wrap ((m.length:Int)-(k+1))=((m.length-(k+1):Nat):Int):=by rw[wrap64 (by omega) (by omega)];omega
    have hc:=hk.2.2;rw[xz,tc]at hc;refine gO F20 ?_;simp only[List.length_map];rw[C0];refine fu (.str x) (by omega) (rB hx) rfl ?_;refine gO F20 ?_;simp only[List.length_map];rw[GR];refine fu (.str y) (by omega) (rB hy) rfl ?_;refine gO F20 ?_;refine ar (fun h3=>?_) (fun h3=>?_)
    ·refine gO F20 ?_;rw[hc,cmpL,if_pos h3]
    ·refine gO F20 ?_;refine ar (fun h4=>?_) (fun h4=>?_)
     ·refine gO F20 ?_;rw[hc,cmpL,if_neg (by rw[h3];decide),if_neg (by simp[h3]at h4;simpa using h4)]
     ·refine gO F20 ?_;refine aa.back (IH (k+1) ⟨by omega,by omega,by rw[hc,cmpL,if_neg (by rw[h3];decide),if_pos (by simpa [h3]using h4)]⟩ (by omega)) ?_;exact sZ
   ·have gr:k<l.length:=by simp at h1;omega
    have Ai:k=m.length:=by simp at h2;omega
    obtain⟨x,hx,xz⟩:=rev_at gr;have hc:=hk.2.2;rw[xz,List.drop_of_length_le (l:=m.reverse) (by simp;omega),cmpL]at hc;refine gO F20 ?_;refine aP (by simp;omega) ?_;refine gO F20 ?_;refine aJ (by simp;omega) ?_;refine gO F20 ?_;rw[hc]
  ·have gr:k=l.length:=by simp at h1;omega
   have hc:=hk.2.2;rw[List.drop_of_length_le (l:=l.reverse) (by simp;omega)]at hc;refine gO F20 ?_;refine aV ?_;refine gO F20 ?_;refine ar (fun h2=>?_) (fun h2=>?_)
   ·have Ai:k<m.length:=by simp at h2;omega
    obtain⟨y,hy,tc⟩:=rev_at Ai;rw[tc,cmpL]at hc;refine gO F20 ?_;rw[hc]
   ·have Ai:k=m.length:=by simp at h2;omega
    rw[List.drop_of_length_le (l:=m.reverse) (by simp;omega),cmpL]at hc;refine gO F20 ?_;refine aP (by simp;omega) ?_;refine gO F20 ?_;rw[hc]
theorem Nc(a b:Text)(ha:Nm.valid a=true)(hb:Nm.valid b=true):az E 227 [.str a,.str b] (· = .aK [.int .i64 (bC a b),.int .i64 0]):=by
 have h1:=dF ha;have h2:=dF hb;refine eP Tryz.func227 ?_
 with_reducible refine aj (fU _ (by unfold maxLen;omega)) ?_
 refine gO Tryz.func227 ?_
 with_reducible refine aj (fU _ (by unfold maxLen;omega)) ?_
 refine gO Tryz.func227 ?_;rw[ha,hb];refine aP (by decide) ?_;refine gO Tryz.func227 ?_;refine aP (by decide) ?_;refine gO Tryz.func227 ?_
 with_reducible refine aj (Ah _ _ (by omega) (by omega)) ?_
 refine gO Tryz.func227 ?_
 with_reducible rfl
def nX(a b:eM):Int:=if bC a.name b.name≠0 then bC a.name b.name else gy a.type b.type
theorem Nd(a b:eM)(ha:Nm.valid a.name=true)(hb:Nm.valid b.name=true):az E 189 [a.enc,b.enc] (· = .int .i64 (nX a b)):=by
 refine eP Tryz.func189 ?_;repeat' (first|with_reducible(first|refine aj (Nc _ _ ha hb) ?_|refine bl (Nc _ _ ha hb) ?_|refine cY ?_|refine cN ?_|refine ar (fun _=>?_) (fun _=>?_))|refine gA Tryz.func189 ?_|refine gB ?_|refine gC ?_|with_reducible rfl)
 all_goals simp_all[nX,gy]
 all_goals omega
structure Signed.Aj(s:Signed):Prop where
 data:s.set.data.length<=2147483648
 sigs:s.sigs.length<=2147483648
structure aQ.Aj(z:aQ):Prop where
 ab:z.ab.length<=2147483648
 each:∀ s∈z.ab,s.Aj
def nb(l:List DV)(n:Int)(e:DV):Prop:=0<=n/\l[n.toNat]?=some e
theorem aD{l:List DV}{sz:Nat}{n:Int}{K:DV->Prop}{e:DV}(h:nb l n e)(hs:e.cells.length=sz)(k:K e):sC l sz n K:=fu e h.1 h.2 hs k
theorem aU{α:Type}{f:α->DV}{l:List α}{k:Nat}{x:α}(h:l[k]?=some x):nb (l.map f) (k:Int) (f x):=⟨by omega,rB h⟩
theorem te{α:Type}{f:α->DV}{l:List α}{x:α}(h:l[0]?=some x):nb (l.map f) 0 (f x):=⟨by omega,by simp[h]⟩
theorem oV{α:Type}{f:α->DV}{l:List α}{k:Nat}{x:α}(h:l[k-1]?=some x)(h0:0<k)(hb:k<=4294967296):nb (l.map f) (IntKind.i64.wrap ((k:Int)-1)) (f x):=by
 have:IntKind.i64.wrap ((k:Int)-1)=((k-1:Nat):Int):=by rw[wrap64 (by omega) (by omega)];omega
 rw[this];exact aU h
theorem at_next{α:Type}{f:α->DV}{l:List α}{k:Nat}{x:α}(h:l[k+1]?=some x)(hb:k<=4294967296):nb (l.map f) (IntKind.i64.wrap ((k:Int)+1)) (f x):=by
 have:IntKind.i64.wrap ((k:Int)+1)=((k+1:Nat):Int):=by rw[wrap64 (by omega) (by omega)];omega
 rw[this];exact aU h
def chain{α:Type}(ok:α->Bool)(rel:α->α->Bool):Option α->List α->Bool
 |_,[]=>true
 |p,x::l=>ok x&&(match p with|none=>true|some q=>rel q x)&&chain ok rel (some x) l
def cX{α:Type}(l:List α)(k:Nat):Option α:=if k=0 then none else l[k-1]?
theorem C1{α:Type}{ok:α->Bool}{rel:α->α->Bool}{l:List α}{k:Nat}{x:α}(hx:l[k]?=some x):chain ok rel (cX l k) (l.drop k)=(ok x&&(match cX l k with|none=>true|some q=>rel q x)&&chain ok rel (cX l (k+1)) (l.drop (k+1))):=by
 have hk:=a7 hx;rw[List.drop_eq_getElem_cons hk];have e1:l[k]=x:=by simpa [hk]using hx
 have e2:cX l (k+1)=some x:=by simp[cX,hx]
 rw[e1,e2];rfl
theorem xA{α:Type}{l:List α}{k:Nat}(h0:0<k)(hk:k<=l.length):∃ q,l[k-1]?=some q/\cX l k=some q:=by
 obtain⟨q,hq⟩:=bd (l:=l) (k:=k-1) (by omega);exact⟨q,hq,by simp[cX,hq];omega⟩
def gE(ad:Text)(g0 g:iS):Bool:=(g.aC==ad)&&decide (1<=g.key)&&decide (g.key<=1000000)&&decide (1<=g.pU)&&decide (g.pU<=3)&&(g.ry==g0.ry)&&(g.upto==g0.upto)&&decide (0<=g.ry)&&decide (g.ry<=g.upto)&&decide (g.upto<=20000000)
def kl(q g:iS):Bool:=decide (q.key<g.key)
def nY(l:List iS)(ad:Text):Bool:=decide ((l.length:Int)<=6)&&chain (gE ad (l.headD CV)) kl none l
theorem Nf{l:List iS}{k:Nat}(h:k<l.length):l[0]?=some (l.headD CV):=by
 cases l with
 |nil=>simp at h
 |cons x l=>rfl
theorem Ng(l:List iS)(ad:Text):az E 193 [G1 l,.str ad] (· = .bool (nY l ad)):=by
 unfold nY;have hg:∃ g0,g0=l.headD CV:=⟨_,rfl⟩;obtain⟨g0,hg⟩:=hg;rw[<- hg];refine eP F193 ?_;refine ar (fun h1=>?_) (fun h1=>?_)
 ·refine gO F193 ?_;simp only[List.length_map]at h1;rw[decide_eq_false (by simp at h1;omega),Bool.false_and]
 ·have h6:l.length<=6:=by simp at h1;omega
  rw[decide_eq_true (by omega),Bool.true_and];refine gO F193 ?_;refine aa.loop (κ:=Nat) ([4,5,6]++rg 10 82) (fun k=>[(5,.d (.int .i64 k))]) (fun _=>[]) (fun k=>k<=l.length/\chain (gE ad g0) kl none l=chain (gE ad g0) kl (cX l k) (l.drop k)) (fun k=>l.length-k) 0 ⟨Nat.zero_le _,rfl⟩ ?_ ?_
  ·exact sZ
  ·intro k hk IH;refine aa.head ag F193 2000 ?_;(conv=>whnf);refine ar (fun h5=>?_) (fun h5=>?_)
   ·have ai:k<l.length:=by simpa using h5
    obtain⟨x,hx⟩:=bd ai;have h0:=Nf ai;rw[<- hg]at h0;have bc:=C1 (ok:=gE ad g0) (rel:=kl) hx;rw[<- hk.2]at bc;refine gO F193 ?_;refine aD (aU hx) rfl ?_;refine gO F193 ?_;refine aa.draw ag bU 57 2000 (by kernel_rfl) ?_;(conv=>whnf);rcases Nat.eq_zero_or_pos k with dh|dh
    ·have eN:cX l k=none:=by simp[cX,dh]
     rw[eN]at bc;dsimp only at bc;rw[Bool.and_true]at bc;repeat' (first|with_reducible(first|refine aD (aU hx) rfl ?_|refine aD (te h0) rfl ?_|refine cY ?_|refine cN ?_|refine ar (fun _=>?_) (fun _=>?_))|refine gA F193 ?_|refine gB ?_|refine gC ?_|with_reducible rfl)
     all_goals first
      |(have dR : gE ad g0 x=false := by clear bc hk IH hg;simp_all[gE, kl, cX]<;>(intros;omega)
        rw[bc, dR, Bool.false_and]
        done)
      |(exfalso;clear bc hk IH hg;simp_all;done)
      |skip
     all_goals
      refine gO F193 ?_;refine aa.back (IH (k+1) ⟨by omega,by rw[bc,show gE ad g0 x=true by clear bc hk IH hg;simp_all[gE,kl,cX]<;>omega,Bool.true_and]⟩ (by omega)) ?_;exact sZ
    ·obtain⟨q,hq,eN⟩:=xA dh hk.1;rw[eN]at bc;repeat' (first|with_reducible(first|refine aD (aU hx) rfl ?_|refine aD (te h0) rfl ?_|refine aD (oV hq dh (by omega)) rfl ?_|refine cY ?_|refine cN ?_|refine ar (fun _=>?_) (fun _=>?_))|refine gA F193 ?_|refine gB ?_|refine gC ?_|with_reducible rfl)
     all_goals first
      |(have dR : (gE ad g0 x && kl q x)=false := by clear bc hk IH hg;simp_all[gE, kl, cX]<;>(intros;omega)
        rw[bc, dR, Bool.false_and]
        done)
      |(exfalso;clear bc hk IH hg;simp_all;done)
      |skip
     all_goals
      refine gO F193 ?_;refine aa.back (IH (k+1) ⟨by omega,by rw[bc,show(gE ad g0 x&&kl q x)=true by clear bc hk IH hg;simp_all[gE,kl,cX]<;>omega,Bool.true_and]⟩ (by omega)) ?_;exact sZ
   ·have aL:l.length<=k:=by simpa using h5
    refine gO F193 ?_;rw[hk.2,List.drop_of_length_le aL];rfl
def vA(t:Int)(ad:Bool):Bool:=if ad then t != 3&&t != 6 else t != 4&&t != 7
theorem Nh(t:Int)(ad:Bool):az E 190 [.int .i64 t,.bool ad] (· = .bool (vA t ad)):=by
 refine eP Tryz.func190 ?_;repeat' (first|with_reducible(first|refine cY ?_|refine cN ?_|refine ar (fun _=>?_) (fun _=>?_))|refine gA Tryz.func190 ?_|refine gB ?_|refine gC ?_|with_reducible rfl)
 all_goals simp_all[vA]
structure aG where
 name:Text
 type:Int
 deriving DecidableEq
@[reducible] def aG.enc (q : aG) : DV := .agg [.str q.name, .int .i64 q.type]
def cE(q:aG)(s:Signed):Bool:=s.set.name==q.name&&s.set.type==q.type
def aq(l:List Signed)(q:aG):Int:=match l.findIdx? (cE q)with
 |some i=>i
 |none => -1
theorem Ni{l:List Signed}{q:aG}{k:Nat}{x:Signed}(h:∀ j y,j<k->l[j]?=some y->cE q y=false)(hx:l[k]?=some x)(hq:cE q x=true):aq l q=k:=by
 have:l.findIdx? (cE q)=some k:=by
  rw[List.findIdx?_eq_some_iff_getElem];have hk:=a7 hx;refine⟨hk,?_,fun j hj=>?_⟩
  ·have:l[k]=x:=by simpa [hk]using hx
   rw[this];exact hq
  ·have:=h j l[j] hj (by simp);rw[this];decide
 rw[aq,this]
theorem Wj{l:List Signed}{q:aG}(h:∀ j y,j<l.length->l[j]?=some y->cE q y=false):aq l q = -1:=by
 have:l.findIdx? (cE q)=none:=by
  rw[List.findIdx?_eq_none_iff];intro x hx;obtain⟨j,hj⟩:=List.getElem?_of_mem hx;exact h j x (a7 hj) hj
 rw[aq,this]
theorem vB(z:aQ)(q:aG)(hl:z.ab.length<=2147483648):az E 22 [z.enc,q.enc] (· = .int .i64 (aq z.ab q)):=by
 obtain⟨ad,l⟩:=z;simp only at hl ⊢;refine eP Tryz.func22 ?_;refine aa.loop (κ:=Nat) (rg 4 32) (fun k=>[(5,.d (.int .i64 k))]) (fun _=>[]) (fun k=>k<=l.length/\∀ j y,j<k->l[j]?=some y->cE q y=false) (fun k=>l.length-k) 0 ⟨Nat.zero_le _,fun j y h=>by omega⟩ ?_ ?_
 ·exact sZ
 ·intro k hk IH;refine aa.head ag Tryz.func22 2000 ?_;(conv=>whnf);refine ar (fun h5=>?_) (fun h5=>?_)
  ·have ai:k<l.length:=by simpa using h5
   obtain⟨x,hx⟩:=bd ai;refine gO Tryz.func22 ?_;refine aa.draw ag bU 22 2000 (by kernel_rfl) ?_;(conv=>whnf);repeat' (first|with_reducible(first|refine aD (aU hx) rfl ?_|refine cY ?_|refine cN ?_|refine ar (fun _=>?_) (fun _=>?_))|refine gA Tryz.func22 ?_|refine gB ?_|refine gC ?_|with_reducible rfl)
   all_goals first
    |(rw[Ni hk.2 hx (by simp_all[cE])];done)
    |skip
   all_goals
    refine gO Tryz.func22 ?_;refine aa.back (IH (k+1) ⟨by omega,fun j y hj hy=>?_⟩ (by omega)) ?_
    ·rcases Nat.lt_or_ge j k with h|h
     ·exact hk.2 j y h hy
     ·obtain rfl:j=k:=by omega
      rw[hx]at hy;cases hy;simp_all[cE]
    ·exact sZ
  ·have aL:k=l.length:=by simp at h5;omega
   subst aL;refine gO Tryz.func22 ?_;rw[Wj hk.2]
def xB(s:Signed):Bool := !(decide ((s.set.data.length:Int)>20)) && !(decide ((s.sigs.length:Int)>20))
def xC(z:aQ):Bool:=(z.ab.take 101).all xB&&decide ((z.ab.length:Int)<=100)
theorem Wk(z:aQ):az E 30 [z.enc] (· = .bool (xC z)):=by
 obtain⟨ad,l⟩:=z;unfold xC;simp only;refine eP F30 ?_;refine aa.loop (κ:=Nat) (rg 2 32) (fun k=>[(3,.d (.int .i64 k))]) (fun _=>[]) (fun k=>k<=l.length/\k<=101/\(l.take k).all xB=true) (fun k=>l.length-k) 0 ⟨Nat.zero_le _,by omega,rfl⟩ ?_ ?_
 ·exact sZ
 ·intro k hk IH;refine aa.head ag F30 2000 ?_;(conv=>whnf);refine ar (fun h5=>?_) (fun h5=>?_)
  ·have ai:k<l.length:=by simpa using h5
   obtain⟨x,hx⟩:=bd ai;refine gO F30 ?_;refine ar (fun h6=>?_) (fun h6=>?_)
   ·have Nj:k<=100:=by simp at h6;omega
    have eS:(l.take 101)[k]?=some x:=by rw[List.getElem?_take,if_pos (by omega)];exact hx
    refine gO F30 ?_;repeat' (first|with_reducible(first|refine aD (aU hx) rfl ?_|refine cY ?_|refine cN ?_|refine ar (fun _=>?_) (fun _=>?_))|refine gA F30 ?_|refine gB ?_|refine gC ?_|with_reducible rfl)
    all_goals first
     |(rw[iV eS (by simp_all[xB]),Bool.false_and];done)
     |skip
    all_goals
     refine gO F30 ?_;refine aa.back (IH (k+1) ⟨by omega,by omega,jI hk.2.2 hx (by simp_all[xB])⟩ (by omega)) ?_;exact sZ
   ·have Nj:k=101:=by simp at h6;omega
    subst Nj;refine gO F30 ?_;rw[hk.2.2,Bool.true_and];simp
  ·have aL:k=l.length:=by simp at h5;omega
   refine gO F30 ?_;refine aV ?_;refine gO F30 ?_;rw[show(l.take 101).all xB=true by rw[List.take_of_length_le (by omega)];exact nW hk.2.2 (by omega),Bool.true_and];simp
def rJ(z:aQ):Bool := !(decide (aq z.ab ⟨z.ad,4⟩<0)) && !(decide (aq z.ab ⟨z.ad,2⟩<0))&&z.ab.all fun s=>vA s.set.type (s.set.name==z.ad)
theorem Nk(z:aQ)(hl:z.ab.length<=2147483648):az E 121 [z.enc] (· = .bool (rJ z)):=by
 obtain⟨ad,l⟩:=z;simp only at hl;have h1:=vB ⟨ad,l⟩ ⟨ad,4⟩ hl;have h2:=vB ⟨ad,l⟩ ⟨ad,2⟩ hl;refine eP F121 ?_;repeat' (first|with_reducible(first|refine aj (h1) ?_|refine bl (h1) ?_|refine aj (h2) ?_|refine bl (h2) ?_|refine cY ?_|refine cN ?_|refine ar (fun _=>?_) (fun _=>?_))|refine gA F121 ?_|refine gB ?_|refine gC ?_|with_reducible rfl)
 all_goals try (simp_all[rJ];done)
 all_goals
  rename_i h3 h4;simp only[rJ,h3,h4,Bool.not_false,Bool.true_and];refine gO F121 ?_;refine aa.loop (κ:=Nat) ([2,3]++rg 18 26) (fun k=>[(3,.d (.int .i64 k))]) (fun _=>[]) (fun k=>k<=l.length/\(l.take k).all (fun s=>vA s.set.type (s.set.name==ad))=true) (fun k=>l.length-k) 0 ⟨Nat.zero_le _,rfl⟩ ?_ ?_
  ·exact sZ
  ·intro k hk IH;refine aa.head ag F121 2000 ?_;(conv=>whnf);refine ar (fun h5=>?_) (fun h5=>?_)
   ·have ai:k<l.length:=by simpa using h5
    obtain⟨x,hx⟩:=bd ai;refine gO F121 ?_;refine aa.draw ag bU 19 2000 (by kernel_rfl) ?_;(conv=>whnf);repeat' (first|with_reducible(first|refine aD (aU hx) rfl ?_|refine aj (Nh _ _) ?_|refine bl (Nh _ _) ?_|refine cY ?_|refine cN ?_|refine ar (fun _=>?_) (fun _=>?_))|refine gA F121 ?_|refine gB ?_|refine gC ?_|with_reducible rfl)
    all_goals first
     |(rw[iV hx (by simp_all)];done)
     |skip
    all_goals
     refine gO F121 ?_;refine aa.back (IH (k+1) ⟨by omega,jI hk.2 hx (by simp_all)⟩ (by omega)) ?_;exact sZ
   ·have aL:l.length<=k:=by simpa using h5
    refine gO F121 ?_;rw[nW hk.2 aL]
def mo:Text->Option Text->List Signed->Bool
 |_,_,[]=>true
 |al,p,s::l=>(match p with
   |none=>true
   |some n=>if n==s.set.name then !((s.set.name != []&&s.set.type==3)||(s.set.name != []&&(s.set.name==if s.set.type==3 then s.set.name else al)&&s.set.type != 3&&s.set.type != 8))else true)
  && mo (if s.set.type==3 then s.set.name else al) (some s.set.name) l
theorem Wl{al : Text}{l : List Signed}{k : Nat}{x : Signed}(hx : l[k]?=some x) : mo al (cX (l.map (·.set.name)) k) (l.drop k)=((match cX (l.map (·.set.name)) k with
      |none => true
      |some n => if n == x.set.name then !((x.set.name != [] && x.set.type == 3) || (x.set.name != [] && (x.set.name == if x.set.type == 3 then x.set.name else al) && x.set.type != 3 && x.set.type != 8))else true)
  && mo (if x.set.type==3 then x.set.name else al) (cX (l.map (·.set.name)) (k+1)) (l.drop (k+1))):=by
 have hk:=a7 hx;rw[List.drop_eq_getElem_cons hk];have e1:l[k]=x:=by simpa [hk]using hx
 have e2:cX (l.map (·.set.name)) (k+1)=some x.set.name:=by simp[cX,hx]
 rw[e1,e2];rfl
theorem Nl(z:aQ)(hl:z.ab.length<=2147483648):az E 122 [z.enc] (· = .bool (mo [] none z.ab)):=by
 obtain⟨ad,l⟩:=z;simp only at hl ⊢;refine eP F122 ?_;refine aa.loop (κ:=Nat × Text) [2,3,4,5,6,7,8,9,10,11,12,13,14,15,16,17,18,19,20,21,22,23,24,25,26,27,28,29,30,31,32,33,34,35,36,37,38,39,40,41,42,43,44,45,46,47,48,49,50,51,52,53,54,55,56,57,58,59,60,61,62,63,64,65,66,67,68,69,70,71,72,73,74,75,76,77,78,79,80,81,82,83,84,85] (fun k=>[(4,.d (.int .i64 k.1)),(3,.d (.str k.2))]) (fun _=>[]) (fun k=>k.1<=l.length/\mo [] none l=mo k.2 (cX (l.map (·.set.name)) k.1) (l.drop k.1)) (fun k=>l.length-k.1) (0,[]) ⟨Nat.zero_le _,rfl⟩ ?_ ?_
 ·exact sZ
 ·rintro⟨k,al⟩ hk IH;simp only at hk;refine aa.head ag F122 2000 ?_;(conv=>whnf);refine ar (fun h5=>?_) (fun h5=>?_)
  ·have ai:k<l.length:=by simpa using h5
   obtain⟨x,hx⟩:=bd ai;have bc:=Wl (al:=al) hx;rw[<- hk.2]at bc;refine gO F122 ?_;refine aD (aU hx) rfl ?_;refine gO F122 ?_;refine ar (fun h6=>?_) (fun h6=>?_);all_goals
    rcases Nat.eq_zero_or_pos k with dh|dh
    ·have eN:cX (l.map (·.set.name)) k=none:=by simp[cX,dh]
     rw[eN]at bc;refine gO F122 ?_;repeat' (first|with_reducible(first|refine aD (aU hx) rfl ?_|refine cY ?_|refine cN ?_|refine ar (fun _=>?_) (fun _=>?_))|refine gA F122 ?_|refine gB ?_|refine gC ?_|with_reducible rfl)
     refine gO F122 ?_;refine aa.draw ag bU 20 2000 (by kernel_rfl) ?_;(conv=>whnf);repeat' (first|with_reducible(first|refine aD (aU hx) rfl ?_|refine cY ?_|refine cN ?_|refine ar (fun _=>?_) (fun _=>?_))|refine gA F122 ?_|refine gB ?_|refine gC ?_|with_reducible rfl)
     all_goals first
      |(exfalso;clear bc hk IH;simp_all;done)
      |skip
     all_goals
      refine gO F122 ?_;refine aa.back (IH (k+1,if x.set.type==3 then x.set.name else al) ⟨by simp only;omega,by simp only;rw[bc];simp⟩ (by simp only;omega)) ?_;(conv=>whnf);repeat (first|exact trivial|(refine And.intro (by first|with_reducible rfl|exact congrArg (DV.int .i64) (by omega)|exact congrArg DV.str (by simp[h6])|exact congrArg (DV.int .i64) (wrap64 (by omega) (by omega))|exact congrArg (DV.int .i64) ((wrap64 (by omega) (by omega)).trans (by omega))) ?_;conv=>whnf))
    ·obtain⟨q,hq,-⟩:=xA dh hk.1;have eN:cX (l.map (·.set.name)) k=some q.set.name:=by simp[cX,hq];omega
     rw[eN]at bc;refine gO F122 ?_;repeat' (first|with_reducible(first|refine aD (aU hx) rfl ?_|refine aD (oV hq dh (by omega)) rfl ?_|refine cY ?_|refine cN ?_|refine ar (fun _=>?_) (fun _=>?_))|refine gA F122 ?_|refine gB ?_|refine gC ?_|with_reducible rfl)
     refine gO F122 ?_;refine aa.draw ag bU 20 2000 (by kernel_rfl) ?_;(conv=>whnf);repeat' (first|with_reducible(first|refine aD (aU hx) rfl ?_|refine aD (oV hq dh (by omega)) rfl ?_|refine cY ?_|refine cN ?_|refine ar (fun _=>?_) (fun _=>?_))|refine gA F122 ?_|refine gB ?_|refine gC ?_|with_reducible rfl)
     all_goals first
      |(rw[bc];clear bc hk IH;simp_all;done)
      |(exfalso;clear bc hk IH;simp_all;done)
      |skip
     all_goals
      refine gO F122 ?_;refine aa.back (IH (k+1,if x.set.type==3 then x.set.name else al) ⟨by simp only;omega,by simp only;rw[bc];clear bc hk IH;simp_all⟩ (by simp only;omega)) ?_;(conv=>whnf);repeat (first|exact trivial|(refine And.intro (by first|with_reducible rfl|exact congrArg (DV.int .i64) (by omega)|exact congrArg DV.str (by simp[h6])|exact congrArg (DV.int .i64) (wrap64 (by omega) (by omega))|exact congrArg (DV.int .i64) ((wrap64 (by omega) (by omega)).trans (by omega))) ?_;conv=>whnf))
  ·have aL:l.length<=k:=by simpa using h5
   refine gO F122 ?_;rw[hk.2,List.drop_of_length_le aL];rfl
def iH(ad:Text)(s:Signed):Bool:=s.set.type==2&&s.set.name != ad
def bO(ad:Text)(l:List Signed):List Text:=(l.filter (iH ad)).map (·.set.name)
theorem Wm{ad:Text}{l:List Signed}{k:Nat}{x:Signed}(h:l[k]?=some x):bO ad (l.take (k+1))=bO ad (l.take k)++(if iH ad x then[x.set.name]else[]):=by
 rw[ey h];simp only[bO,List.filter_append,List.map_append]
 congr 1
 cases hc:iH ad x<;>simp[hc]
theorem C2(ad:Text)(l:List Signed):(bO ad l).length<=l.length:=by
 simp only[bO,List.length_map];exact List.length_filter_le _ _
theorem nZ{ad:Text}{l:List Signed}{c:Text}(h:c∈bO ad l):∃ s∈l,s.set.name=c/\iH ad s=true:=by
 simp only[bO,List.mem_map,List.mem_filter]at h;obtain⟨s,⟨h1,h2⟩,h3⟩:=h;exact⟨s,h1,h3,h2⟩
theorem Nn(z:aQ)(hl:z.ab.length<=1000000000):az E 214 [z.enc] (· = .sl ((bO z.ad z.ab).map .str)):=by
 obtain⟨ad,l⟩:=z;simp only at hl ⊢;refine eP Tryz.func214 ?_;refine aa.l9 3 (9,1) (by decide) rfl ?_;(conv=>whnf);refine aa.loop (κ:=Nat) (rg 3 31) (fun k=>[(4,.d (.int .i64 k)),(3,.own 1 1)]) (fun k=>[(1,.arr 1 (9,1) ((bO ad (l.take k)).map .str))]) (fun k=>k<=l.length) (fun k=>l.length-k) 0 (Nat.zero_le _) ?_ ?_
 ·(conv=>whnf);repeat (first|exact trivial|(refine And.intro (by first|with_reducible rfl|exact congrArg (DV.int .i64) (by omega)|exact rfl|exact congrArg (DV.int .i64) (wrap64 (by omega) (by omega))|exact congrArg (DV.int .i64) ((wrap64 (by omega) (by omega)).trans (by omega))) ?_;conv=>whnf))
 ·intro k hk IH;have ez:=C2 ad (l.take k);rw[List.length_take]at ez;refine aa.head ag Tryz.func214 2000 ?_;(conv=>whnf);refine ar (fun h5=>?_) (fun h5=>?_)
  ·have ai:k<l.length:=by simpa using h5
   obtain⟨x,hx⟩:=bd ai;have bc:=Wm (ad:=ad) hx;refine gO Tryz.func214 ?_;repeat' (first|with_reducible(first|refine aD (aU hx) rfl ?_|refine cY ?_|refine cN ?_|refine ar (fun _=>?_) (fun _=>?_))|refine gA Tryz.func214 ?_|refine gB ?_|refine gC ?_|with_reducible rfl)
   all_goals first
    |(refine bB ⟨by simp;omega, by simp[DV.cells]⟩ ?_
      have hc : iH ad x=true := by simp_all[iH])
    |(have hc:iH ad x=false:=by simp_all[iH])
   all_goals
    rw[hc]at bc;refine gO Tryz.func214 ?_;refine aa.back (IH (k+1) (by omega) (by omega)) ?_;(conv=>whnf);repeat (first|exact trivial|(refine sI ?_;conv=>whnf))
    refine And.intro (by rw[bc];simp) ?_;exact sZ
  ·have aL:l.length<=k:=by simpa using h5
   refine gO Tryz.func214 ?_;rw[List.take_of_length_le aL]
def kT(out:List Text)(c:Text):List Text:=match out.getLast? with
 |none=>out++[c]
 |some d=>if Nm.under c d then out else out++[c]
def fy(l:List Text):List Text:=l.foldl kT []
theorem Wn{l:List Text}{k:Nat}{x:Text}(h:l[k]?=some x):fy (l.take (k+1))=kT (fy (l.take k)) x:=by
 rw[ey h,fy,List.foldl_append];rfl
theorem Wo(o:List Text)(c:Text):(kT o c).length<=o.length+1:=by
 unfold kT;split
 ·simp
 ·split<;>simp
theorem No(l:List Text):(fy l).length<=l.length:=by
 have:∀ (l o:List Text),(l.foldl kT o).length<=o.length+l.length:=by
  intro l
  induction l with
  |nil=>simp
  |cons x l ih=>intro o;have:=ih (kT o x);have:=Wo o x;simp;omega
 have:=this l []
 simpa [fy]using this
theorem xD{l:List Text}:∀ c∈fy l,c∈l:=by
 have:∀ (l o:List Text),∀ c∈l.foldl kT o,c∈o\/c∈l:=by
  intro l
  induction l with
  |nil=>intro o c h;exact .inl h
  |cons x l ih =>
   intro o c h;rcases ih (kT o x) c h with h|h
   ·have:c∈o\/c=x:=by
     unfold kT at h;split at h
     ·simpa using h
     ·split at h
      ·exact .inl h
      ·simpa using h
    rcases this with h|h
    ·exact .inl h
    ·exact .inr (by simp[h])
   ·exact .inr (List.mem_cons_of_mem _ h)
 intro c h;rcases this l [] c h with h|h
 ·simp at h
 ·exact h
theorem Wp(z:aQ)(hl:z.ab.length<=1000000000)(hn:∀ s∈z.ab,s.set.name.length<=1000):az E 228 [z.enc] (· = .sl ((fy (bO z.ad z.ab)).map .str)):=by
 have dW:∀ c∈bO z.ad z.ab,c.length<=1000:=fun c hc=>by
  obtain⟨s,h1,rfl,-⟩:=nZ hc;exact hn s h1
 have ez:=C2 z.ad z.ab;refine eP F228 ?_
 with_reducible refine aj (Nn z hl) ?_
 refine gO F228 ?_;generalize bO z.ad z.ab=l at *;refine aa.l9 4 (9,1) (by decide) rfl ?_;(conv=>whnf);refine aa.loop (κ:=Nat) ([4,5]++rg 8 30) (fun k=>[(5,.d (.int .i64 k)),(4,.own 1 1)]) (fun k=>[(1,.arr 1 (9,1) ((fy (l.take k)).map .str))]) (fun k=>k<=l.length) (fun k=>l.length-k) 0 (Nat.zero_le _) ?_ ?_
 ·(conv=>whnf);repeat (first|exact trivial|(refine And.intro (by first|with_reducible rfl|exact congrArg (DV.int .i64) (by omega)|exact rfl|exact congrArg (DV.int .i64) (wrap64 (by omega) (by omega))|exact congrArg (DV.int .i64) ((wrap64 (by omega) (by omega)).trans (by omega))) ?_;conv=>whnf))
 ·intro k hk IH;have Hd:=No (l.take k);rw[List.length_take]at Hd;have Wq:∀ c∈fy (l.take k),c.length<=1000:=fun c hc=>dW c (List.mem_of_mem_take (xD c hc));refine aa.head ag F228 2000 ?_;(conv=>whnf);refine ar (fun h5=>?_) (fun h5=>?_)
  ·have ai:k<l.length:=by simpa using h5
   obtain⟨x,hx⟩:=bd ai;have iT:=dW x (List.mem_of_getElem? hx);have bc:=Wn hx;generalize fy (l.take k)=o at *;rcases List.eq_nil_or_concat o with rfl|⟨i,d,rfl⟩
   ·refine gO F228 ?_;refine aa.draw ag bU 17 2000 (by kernel_rfl) ?_;(conv=>whnf);refine aJ (by simp) ?_;refine gD ?_;refine gS ?_;refine gO F228 ?_;refine bq ?_;refine gO F228 ?_;refine aD (aU hx) rfl ?_;refine gO F228 ?_;refine bB ⟨by simp,by simp[DV.cells]⟩ ?_;refine gO F228 ?_;refine aa.back (IH (k+1) (by omega) (by omega)) ?_;(conv=>whnf);repeat (first|exact trivial|(refine sI ?_;conv=>whnf))
    refine And.intro (by rw[bc];simp[kT]) ?_;exact sZ
   ·simp only[List.concat_eq_append]at *;have hw:IntKind.i64.wrap ((((i++[d]).map DV.str).length:Int)-1)=(i.length:Int):=by
     rw[wrap64 (by simp) (by simp;simp at Hd;omega)];simp
    have dN:((i++[d]).map DV.str)[((i.length:Nat):Int).toNat]?=some (.str d):=by simp
    have s8:=Wq d (by simp);have aT:kT (i++[d]) x=if Nm.under x d then i++[d]else i++[d]++[x]:=by simp[kT]
    rw[aT]at bc;refine gO F228 ?_;refine aa.draw ag bU 17 2000 (by kernel_rfl) ?_;(conv=>whnf);refine aP (by simp;omega) ?_;refine gD ?_;refine aD (aU hx) rfl ?_;refine gD ?_;rw[hw];refine bB ⟨by omega,by simp;omega⟩ ?_;refine gD ?_;refine fu (.str d) (by omega) (by simp) rfl ?_;refine gD ?_
    with_reducible refine bl (pY _ _ iT s8) ?_
    refine gD ?_;cases hu:Nm.under x d
    ·rw[hu]at bc;refine gS ?_;refine gO F228 ?_;refine aJ (by decide) ?_;refine gO F228 ?_;refine aD (aU hx) rfl ?_;refine gO F228 ?_;refine bB ⟨by simp;simp at Hd;omega,by simp[DV.cells]⟩ ?_;refine gO F228 ?_;refine aa.back (IH (k+1) (by omega) (by omega)) ?_;(conv=>whnf);repeat (first|exact trivial|(refine sI ?_;conv=>whnf))
     refine And.intro (by rw[bc];simp) ?_;exact sZ
    ·rw[hu]at bc;refine gS ?_;refine gO F228 ?_;refine aP (by decide) ?_;refine gO F228 ?_;refine aa.back (IH (k+1) (by omega) (by omega)) ?_;(conv=>whnf);repeat (first|exact trivial|(refine sI ?_;conv=>whnf))
     refine And.intro (by rw[bc];simp) ?_;exact sZ
  ·have aL:l.length<=k:=by simpa using h5
   refine gO F228 ?_;rw[List.take_of_length_le aL]
def eW(db:List Text)(n:Text)(k:Nat):Nat:=k+((db.drop k).takeWhile fun c=>decide (bC c n<=0)).length
theorem Wr{db:List Text}{n c:Text}{k:Nat}(h:db[k]?=some c)(ho:bC c n<=0):eW db n k=eW db n (k+1):=by
 have hk:=a7 h;have e1:db[k]=c:=by simpa [hk]using h
 unfold eW;rw[List.drop_eq_getElem_cons hk,e1,List.takeWhile_cons_of_pos (by simpa using ho)];simp;omega
theorem Ws{db:List Text}{n c:Text}{k:Nat}(h:db[k]?=some c)(ho:¬ bC c n<=0):eW db n k=k:=by
 have hk:=a7 h;have e1:db[k]=c:=by simpa [hk]using h
 unfold eW;rw[List.drop_eq_getElem_cons hk,e1,List.takeWhile_cons_of_neg (by simpa using ho)];simp
theorem Wt{db:List Text}{n:Text}{k:Nat}(h:db.length<=k):eW db n k=k:=by
 unfold eW;rw[List.drop_of_length_le h];simp
theorem C3{db:List Text}{n:Text}{k:Nat}(h:k<=db.length):eW db n k<=db.length:=by
 unfold eW;have h1:((db.drop k).takeWhile fun c=>decide (bC c n<=0)).length<=(db.drop k).length:=(List.takeWhile_prefix _).length_le;simp at h1 ⊢;omega
def mq(db:List Text)(n:Text)(k:Nat):Text:=if k=0 then[]else match db[k-1]? with
 |some c=>if Nm.under n c then c else[]
 |none=>[]
def nd(db:List Text):Nat->List Text->List Text
 |_,[]=>[]
 |k,n::ns=>mq db n (eW db n k)::nd db (eW db n k) ns
theorem Np(db:List Text):∀ (k:Nat) (ns:List Text),(nd db k ns).length=ns.length
 |_,[]=>rfl
 |k,n::ns=>by simp[nd,Np db _ ns]
def jh(z:aQ):List Text:=nd (fy (bO z.ad z.ab)) 0 (z.ab.map (·.set.name))
theorem tf(z:aQ):(jh z).length=z.ab.length:=by simp[jh,Np]
theorem nf{α:Type}{B:List α}{e x:α}{i n:Nat}(hB:B.length=n)(h:B[i]?=some x):(B.take i++List.replicate (n-i) e).set i x=B.take (i+1)++List.replicate (n-(i+1)) e:=by
 have hi:=a7 h;rw[ey h,List.set_append_right _ _ (by simp;omega)];simp only[List.length_take,List.append_assoc]
 congr 1
 rw[show n-i=(n-(i+1))+1 by omega,List.replicate_succ];simp[Nat.min_eq_left (Nat.le_of_lt hi)]
theorem C4{α:Type}{B:List α}{e:α}{i n:Nat}(hB:B.length=n)(h:B[i]?=some e):B.take i++List.replicate (n-i) e=B.take (i+1)++List.replicate (n-(i+1)) e:=by
 have hi:=a7 h;rw[ey h,List.append_assoc]
 congr 1
 rw[show n-i=(n-(i+1))+1 by omega,List.replicate_succ];rfl
theorem ng{α:Type}{B:List α}{e:α}{i n:Nat}(hB:B.length=n)(hi:i<n):(B.take i++List.replicate (n-i) e)[i]?=some e:=by
 rw[List.getElem?_append_right (by simp;omega)];simp only[List.length_take];rw[show i-min i B.length=0 by omega];rw[List.getElem?_replicate,if_pos (by omega)]
theorem Nq(z:aQ)(hl:z.ab.length<=1000000)(hn:∀ s∈z.ab,s.set.name.length<=1000):az E 191 [z.enc] (· = .sl ((jh z).map .str)):=by
 have dW:∀ c∈fy (bO z.ad z.ab),c.length<=1000:=fun c hc=>by
  obtain⟨s,h1,rfl,-⟩:=nZ (xD c hc);exact hn s h1
 have ez:(fy (bO z.ad z.ab)).length<=z.ab.length:=Nat.le_trans (No _) (C2 _ _);have eX:=tf z;have jF:jh z=nd (fy (bO z.ad z.ab)) 0 (z.ab.map (·.set.name)):=rfl;generalize jh z=B at *;refine eP F191 ?_
 with_reducible refine aj (Wp z (by omega) hn) ?_
 refine gO F191 ?_;generalize fy (bO z.ad z.ab)=db at *;obtain⟨ad,l⟩:=z;simp only at *;refine bB ?_ ?_
 ·simp;omega
 ·refine gO F191 ?_;refine aa.loop (κ:=Nat × Nat) [5,6,7,14,15,16,17,18,19,20,21,22,23,24,25,26,27,28,29,30,31,32,33,34,35,36,37,38,39,40,41,42,43,44,45,46,47,48,49,50,51,52,53,54,55,56,57,58,59,60,61] (fun k=>[(6,.d (.int .i64 k.1)),(5,.d (.int .i64 k.2)),(4,.own 1 0)]) (fun k=>[(1,.arr 0 (9,1) ((B.take k.1++List.replicate (l.length-k.1) []).map .str))]) (fun k=>k.1<=l.length/\k.2<=db.length/\B.drop k.1=nd db k.2 ((l.drop k.1).map (·.set.name))) (fun k=>l.length-k.1) (0,0) ⟨Nat.zero_le _,Nat.zero_le _,by simpa using jF⟩ ?_ ?_
  ·(conv=>whnf);repeat (first|exact trivial|(refine sI ?_;conv=>whnf))
   refine And.intro (by simp) ?_;exact sZ
  ·rintro⟨i,k⟩ hk IH;simp only at hk;refine aa.head ag F191 2000 ?_;(conv=>whnf);refine ar (fun h5=>?_) (fun h5=>?_)
   ·have ai:i<l.length:=by simpa using h5
    obtain⟨x,hx⟩:=bd ai;have iT:=hn x (List.mem_of_getElem? hx);have Ak:(l.drop i).map (·.set.name)=x.set.name::(l.drop (i+1)).map (·.set.name):=by
     have e1:l[i]=x:=by simpa [ai]using hx
     rw[List.drop_eq_getElem_cons ai,e1];rfl
    obtain⟨-,nT,oW⟩:=hk;rw[Ak,nd]at oW;have dU:B[i]?=some (mq db x.set.name (eW db x.set.name k)):=by
     have:=congrArg (fun l=>l[0]?) oW
     simpa using this
    have fh:B.drop (i+1)=nd db (eW db x.set.name k) ((l.drop (i+1)).map (·.set.name)):=by
     have:=congrArg List.tail oW
     simpa using this
    have pZ:=C3 (n:=x.set.name) nT;refine gO F191 ?_;refine aD (aU hx) rfl ?_;refine gO F191 ?_;refine aa.loop (κ:=Nat) ([5]++rg 28 15) (fun j=>[(5,.d (.int .i64 j))]) (fun _=>[]) (fun j=>j<=db.length/\eW db x.set.name k=eW db x.set.name j) (fun j=>db.length-j) k ⟨nT,rfl⟩ ?_ ?_
    ·exact sZ
    ·intro j hj xE;have leave:∀ (C5:eW db x.set.name k=j),True:=fun _=>trivial;refine aa.head ag F191 2000 ?_;(conv=>whnf);refine ar (fun h6=>?_) (fun h6=>?_)
     ·have jK:j<db.length:=by simpa using h6
      obtain⟨c,hc⟩:=bd jK;have Wu:=dW c (List.mem_of_getElem? hc);refine gO F191 ?_;refine aD (aU hc) rfl ?_;refine gO F191 ?_
      with_reducible refine aj (Ah _ _ Wu iT) ?_
      refine gO F191 ?_;refine ar (fun h7=>?_) (fun h7=>?_)
      ·refine gO F191 ?_;refine aa.back (xE (j+1) ⟨by omega,by rw[hj.2];exact Wr hc (by simpa using h7)⟩ (by omega)) ?_;exact sZ
      ·have He:eW db x.set.name k=j:=by rw[hj.2];exact Ws hc (by simpa using h7)
       rw[He]at dU fh;refine gO F191 ?_;rcases Nat.eq_zero_or_pos j with rK|rK
       ·have iy:mq db x.set.name j=[]:=by simp[mq,rK]
        rw[iy]at dU;refine aP (by simp;omega) ?_;refine gO F191 ?_;refine aV ?_;refine gO F191 ?_;refine aa.back (IH (i+1,j) ⟨by simp only;omega,by simp only;omega,fh⟩ (by simp only;omega)) ?_;(conv=>whnf);repeat (first|exact trivial|(refine sI ?_;conv=>whnf))
        refine And.intro (by rw[C4 eX dU]) ?_;exact sZ
       ·obtain⟨c,hc⟩:=bd (l:=db) (k:=j-1) (by omega);have Hf:=dW c (List.mem_of_getElem? hc);have iy:mq db x.set.name j=if Nm.under x.set.name c then c else[]:=by simp[mq,hc];omega
        rw[iy]at dU;refine aJ (by simp;omega) ?_;refine gO F191 ?_;refine aD (oV hc rK (by omega)) rfl ?_;refine gO F191 ?_
        with_reducible refine aj (pY _ _ iT Hf) ?_
        refine gO F191 ?_;cases hu:Nm.under x.set.name c
        ·rw[hu]at dU;refine aV ?_;refine gO F191 ?_;refine aa.back (IH (i+1,j) ⟨by simp only;omega,by simp only;omega,fh⟩ (by simp only;omega)) ?_;(conv=>whnf);repeat (first|exact trivial|(refine sI ?_;conv=>whnf))
         refine And.intro (by rw[C4 eX (by simpa using dU)]) ?_;exact sZ
        ·rw[hu]at dU;refine bq ?_;refine gO F191 ?_;refine aD (oV hc rK (by omega)) rfl ?_;refine gO F191 ?_;refine bB ⟨by omega,by simp;omega⟩ ?_;refine gO F191 ?_;refine fu (.str []) (by omega) (by simp only[Int.toNat_natCast,List.getElem?_map];rw[ng eX ai];rfl) rfl ?_;refine gO F191 ?_;refine aa.back (IH (i+1,j) ⟨by simp only;omega,by simp only;omega,fh⟩ (by simp only;omega)) ?_;(conv=>whnf);repeat (first|exact trivial|(refine sI ?_;conv=>whnf))
         refine And.intro (by rw[<- nf (e:=[]) eX (by simpa using dU)];simp[List.map_set]) ?_;exact sZ
     ·have He:eW db x.set.name k=j:=by rw[hj.2];exact Wt (by simpa using h6)
      rw[He]at dU fh;refine gO F191 ?_;refine aV ?_;refine gO F191 ?_;rcases Nat.eq_zero_or_pos j with rK|rK
      ·have iy:mq db x.set.name j=[]:=by simp[mq,rK]
       rw[iy]at dU;refine aP (by simp;omega) ?_;refine gO F191 ?_;refine aV ?_;refine gO F191 ?_;refine aa.back (IH (i+1,j) ⟨by simp only;omega,by simp only;omega,fh⟩ (by simp only;omega)) ?_;(conv=>whnf);repeat (first|exact trivial|(refine sI ?_;conv=>whnf))
       refine And.intro (by rw[C4 eX dU]) ?_;exact sZ
      ·obtain⟨c,hc⟩:=bd (l:=db) (k:=j-1) (by omega);have Hf:=dW c (List.mem_of_getElem? hc);have iy:mq db x.set.name j=if Nm.under x.set.name c then c else[]:=by simp[mq,hc];omega
       rw[iy]at dU;refine aJ (by simp;omega) ?_;refine gO F191 ?_;refine aD (oV hc rK (by omega)) rfl ?_;refine gO F191 ?_
       with_reducible refine aj (pY _ _ iT Hf) ?_
       refine gO F191 ?_;cases hu:Nm.under x.set.name c
       ·rw[hu]at dU;refine aV ?_;refine gO F191 ?_;refine aa.back (IH (i+1,j) ⟨by simp only;omega,by simp only;omega,fh⟩ (by simp only;omega)) ?_;(conv=>whnf);repeat (first|exact trivial|(refine sI ?_;conv=>whnf))
        refine And.intro (by rw[C4 eX (by simpa using dU)]) ?_;exact sZ
       ·rw[hu]at dU;refine bq ?_;refine gO F191 ?_;refine aD (oV hc rK (by omega)) rfl ?_;refine gO F191 ?_;refine bB ⟨by omega,by simp;omega⟩ ?_;refine gO F191 ?_;refine fu (.str []) (by omega) (by simp only[Int.toNat_natCast,List.getElem?_map];rw[ng eX ai];rfl) rfl ?_;refine gO F191 ?_;refine aa.back (IH (i+1,j) ⟨by simp only;omega,by simp only;omega,fh⟩ (by simp only;omega)) ?_;(conv=>whnf);repeat (first|exact trivial|(refine sI ?_;conv=>whnf))
        refine And.intro (by rw[<- nf (e:=[]) eX (by simpa using dU)];simp[List.map_set]) ?_;exact sZ
   ·have aL:l.length<=i:=by simpa using h5
    refine gO F191 ?_;simp only[show l.length-i=0 by omega,List.replicate_zero,List.append_nil];rw[List.take_of_length_le (by omega)]
theorem xF{α β:Type}{a:List α}{b:List β}{k:Nat}{x:α}{y:β}(ha:a[k]?=some x)(hb:b[k]?=some y):(a.zip b)[k]?=some (x,y):=by
 rw[List.getElem?_zip_eq_some];exact⟨ha,hb⟩
def km(s:Signed)(b:Text):Bool:=b==[]||(s.set.type != 2&&s.set.type != 1)
def rL(z:aQ):List Bool:=(z.ab.zip (jh z)).map fun p=>km p.1 p.2
theorem Hg(z:aQ):(rL z).length=z.ab.length:=by simp[rL,tf]
theorem Wv(z:aQ)(hl:z.ab.length<=1000000)(hn:∀ s∈z.ab,s.set.name.length<=1000):az E 192 [z.enc] (· = .sl ((rL z).map .bool)):=by
 have eX:=tf z;have Hh:=Hg z;have hO:rL z=(z.ab.zip (jh z)).map fun p=>km p.1 p.2:=rfl;generalize rL z=O at *;refine eP F192 ?_
 with_reducible refine aj (Nq z hl hn) ?_
 refine gO F192 ?_;generalize jh z=B at *;obtain⟨ad,l⟩:=z;simp only at *;refine bB (by simp;omega) ?_;refine gO F192 ?_;refine aa.loop (κ:=Nat) ([5,6]++rg 13 30) (fun k=>[(5,.d (.int .i64 k)),(4,.own 1 0)]) (fun k=>[(1,.arr 0 (4,1) ((O.take k++List.replicate (l.length-k) false).map .bool))]) (fun k=>k<=l.length) (fun k=>l.length-k) 0 (Nat.zero_le _) ?_ ?_
 ·(conv=>whnf);repeat (first|exact trivial|(refine sI ?_;conv=>whnf))
  refine And.intro (by simp) ?_;exact sZ
 ·intro k hk IH;refine aa.head ag F192 2000 ?_;(conv=>whnf);refine ar (fun h5=>?_) (fun h5=>?_)
  ·have ai:k<l.length:=by simpa using h5
   obtain⟨x,hx⟩:=bd ai;obtain⟨b,hb⟩:=bd (l:=B) (k:=k) (by omega);have xG:O[k]?=some (km x b):=by rw[hO,List.getElem?_map,xF hx hb];rfl
   have Nr:=ng (e:=false) Hh ai;have cP:=nf (e:=false) Hh xG;refine gO F192 ?_;repeat' (first|with_reducible(first|refine aD (aU hx) rfl ?_|refine aD (aU hb) rfl ?_|refine cY ?_|refine cN ?_|refine ar (fun _=>?_) (fun _=>?_))|refine gA F192 ?_|refine gB ?_|refine gC ?_|with_reducible rfl)
   all_goals
    refine bB ⟨by omega,by simp;omega⟩ ?_;refine gO F192 ?_;refine fu (.bool false) (by omega) (by simp only[Int.toNat_natCast,List.getElem?_map];rw[Nr];rfl) rfl ?_;refine gO F192 ?_;refine aa.back (IH (k+1) (by omega) (by omega)) ?_;(conv=>whnf);repeat (first|exact trivial|(refine sI ?_;conv=>whnf))
    refine And.intro (by rw[<- cP];simp only[Int.toNat_natCast,List.map_set];congr 2;clear cP Nr xG hO IH hb;rcases b with _|⟨c,b⟩<;>simp_all[km]) ?_;exact sZ
  ·have aL:l.length<=k:=by simpa using h5
   refine gO F192 ?_;simp only[show l.length-k=0 by omega,List.replicate_zero,List.append_nil];rw[List.take_of_length_le (by omega)]
def fF(ad:Text)(s:Signed):Bool:=fg s.set&&Nm.under s.set.name ad
def iA(q s:Signed):Bool:=decide (nX q.set s.set<0)
def n4(z:aQ):Bool:=Nm.valid z.ad && !rI z.ad && !(decide ((z.ab.length:Int)>20000))&&chain (fF z.ad) iA none z.ab
theorem vC{s:eM}(h:fg s=true):Nm.valid s.name=true:=by
 simp only[fg,Bool.and_eq_true]at h;exact h.1.1.1.1.1.1
structure aQ.Fits(z:aQ):Prop where
 ad:z.ad.length<=maxLen
 ab:∀ s∈z.ab,s.set.Fits
theorem Ns(z:aQ)(hf:z.Fits):az E 120 [z.enc] (· = .bool (n4 z)):=by
 obtain⟨ad,l⟩:=z;have mb:ad.length<=maxLen:=hf.ad;have gR:∀ s∈l,s.set.Fits:=hf.ab;unfold n4;simp only;cases hv:Nm.valid ad
 ·refine eP F120 ?_
  with_reducible refine aj (fU _ mb) ?_
  refine gO F120 ?_;rw[hv];refine aJ rfl ?_;refine gO F120 ?_;refine bq ?_;refine gO F120 ?_;refine bq ?_;refine gO F120 ?_;simp
 ·have pZ:=dF hv;refine eP F120 ?_
  with_reducible refine aj (fU _ mb) ?_
  refine gO F120 ?_;rw[hv];refine aP rfl ?_;refine gO F120 ?_
  with_reducible refine aj (Hc ad (by omega)) ?_
  refine gO F120 ?_;cases hw:rI ad
  case true =>
   refine bq ?_;refine gO F120 ?_;refine bq ?_;refine gO F120 ?_;simp
  refine aV ?_;refine gO F120 ?_;refine ar (fun h3=>?_) (fun h3=>?_)
  ·refine gO F120 ?_;simp only[List.length_map]at h3;rw[h3];simp
  ·simp only[List.length_map]at h3;rw[h3];simp only[Bool.not_false,Bool.true_and];have Nt:l.length<=20000:=by simp at h3;omega
   refine gO F120 ?_;refine aa.loop (κ:=Nat) ([2,3,4]++rg 20 40) (fun k=>[(3,.d (.int .i64 k))]) (fun _=>[]) (fun k=>k<=l.length/\chain (fF ad) iA none l=chain (fF ad) iA (cX l k) (l.drop k)/\∀ q,cX l k=some q->fg q.set=true) (fun k=>l.length-k) 0 ⟨Nat.zero_le _,rfl,fun q h=>by simp[cX]at h⟩ ?_ ?_
   ·exact sZ
   ·intro k hk IH;refine aa.head ag F120 2000 ?_;(conv=>whnf);refine ar (fun h5=>?_) (fun h5=>?_)
    ·have ai:k<l.length:=by simpa using h5
     obtain⟨x,hx⟩:=bd ai;have bc:=C1 (ok:=fF ad) (rel:=iA) hx;rw[<- hk.2.1]at bc;have Al:=gR x (List.mem_of_getElem? hx);have p7:cX l (k+1)=some x:=by simp[cX,hx]
     cases hs:fg x.set
     ·refine gO F120 ?_;refine aD (aU hx) rfl ?_;refine gO F120 ?_;refine aa.draw ag bU 27 2000 (by kernel_rfl) ?_;conv=>whnf
      with_reducible refine bl (CZ x.set Al) ?_
      refine gD ?_;rw[hs];refine aJ rfl ?_;refine gD ?_;repeat' (first|with_reducible(first|refine cY ?_|refine cN ?_|refine ar (fun _=>?_) (fun _=>?_))|refine gA F120 ?_|refine gB ?_|refine gC ?_|with_reducible rfl)
      rw[bc,fF,hs];simp
     ·have di:=vC hs;have iT:=dF di;refine gO F120 ?_;refine aD (aU hx) rfl ?_;refine gO F120 ?_;refine aa.draw ag bU 27 2000 (by kernel_rfl) ?_;conv=>whnf
      with_reducible refine bl (CZ x.set Al) ?_
      refine gD ?_;rw[hs];refine aP rfl ?_;refine gD ?_
      with_reducible refine bl (pY x.set.name ad (by omega) (by omega)) ?_
      refine gD ?_;rcases Nat.eq_zero_or_pos k with dh|dh
      ·have eN:cX l k=none:=by simp[cX,dh]
       rw[eN]at bc;dsimp only at bc;rw[Bool.and_true]at bc;repeat' (first|with_reducible(first|refine cY ?_|refine cN ?_|refine ar (fun _=>?_) (fun _=>?_))|refine gA F120 ?_|refine gB ?_|refine gC ?_|with_reducible rfl)
       all_goals first
        |(have dR : fF ad x=false := by clear bc hk IH;simp_all[fF]
          rw[bc, dR, Bool.false_and]
          done)
        |(exfalso;clear bc hk IH;simp_all;done)
        |skip
       all_goals
        refine gO F120 ?_;refine aa.back (IH (k+1) ⟨by omega,by rw[bc,show fF ad x=true by clear bc hk IH;simp_all[fF],Bool.true_and],fun q hq=>by rw[p7]at hq;cases hq;exact hs⟩ (by omega)) ?_;exact sZ
      ·obtain⟨q,hq,eN⟩:=xA dh hk.1;have rM:=vC (hk.2.2 q eN);rw[eN]at bc;repeat' (first|with_reducible(first|refine aD (oV hq dh (by omega)) rfl ?_|refine aj (Nd q.set x.set rM di) ?_|refine bl (Nd q.set x.set rM di) ?_|refine cY ?_|refine cN ?_|refine ar (fun _=>?_) (fun _=>?_))|refine gA F120 ?_|refine gB ?_|refine gC ?_|with_reducible rfl)
       all_goals first
        |(have dR : (fF ad x && iA q x)=false := by clear bc hk IH;simp_all[fF, iA]
          rw[bc, dR, Bool.false_and]
          done)
        |(exfalso;clear bc hk IH;simp_all;omega)
        |skip
       all_goals
        refine gO F120 ?_;refine aa.back (IH (k+1) ⟨by omega,by rw[bc,show(fF ad x&&iA q x)=true by clear bc hk IH;simp_all[fF,iA],Bool.true_and],fun q hq=>by rw[p7]at hq;cases hq;exact hs⟩ (by omega)) ?_;exact sZ
    ·have aL:l.length<=k:=by simpa using h5
     refine gO F120 ?_;rw[hk.2.1,List.drop_of_length_le aL];rfl
def p9(s:Signed)(b:Text):Bool := !(b != []&&s.set.type != 1 && !(b != []&&s.set.name==b)) && !((b != []&&s.set.name==b)&&s.set.type != 1&&s.set.type != 2&&s.set.type != 6&&s.set.type != 8) && !(s.set.type==6 && !(b != []&&s.set.name==b))
def Am(z:aQ):Bool:=(z.ab.zip (jh z)).all fun p=>p9 p.1 p.2
theorem Nu(z:aQ)(hl:z.ab.length<=1000000)(hn:∀ s∈z.ab,s.set.name.length<=1000):az E 123 [z.enc] (· = .bool (Am z)):=by
 have eX:=tf z;unfold Am;refine eP F123 ?_
 with_reducible refine aj (Nq z hl hn) ?_
 refine gO F123 ?_;generalize jh z=B at *;obtain⟨ad,l⟩:=z;simp only at *;refine aa.loop (κ:=Nat) ([2,4,5,6]++rg 9 69) (fun k=>[(4,.d (.int .i64 k))]) (fun _=>[]) (fun k=>k<=l.length/\((l.zip B).take k).all (fun p=>p9 p.1 p.2)=true) (fun k=>l.length-k) 0 ⟨Nat.zero_le _,rfl⟩ ?_ ?_
 ·exact sZ
 ·intro k hk IH;refine aa.head ag F123 2000 ?_;(conv=>whnf);refine ar (fun h5=>?_) (fun h5=>?_)
  ·have ai:k<l.length:=by simpa using h5
   obtain⟨x,hx⟩:=bd ai;obtain⟨b,hb⟩:=bd (l:=B) (k:=k) (by omega);have hz:=xF hx hb;refine gO F123 ?_;refine aD (aU hx) rfl ?_;refine gO F123 ?_;refine aa.draw ag bU 15 2000 (by kernel_rfl) ?_;(conv=>whnf);repeat' (first|with_reducible(first|refine aD (aU hb) rfl ?_|refine cY ?_|refine cN ?_|refine ar (fun _=>?_) (fun _=>?_))|refine gA F123 ?_|refine gB ?_|refine gC ?_|with_reducible rfl)
   all_goals first
    |(rw[iV hz (by clear hz hb hk IH;rcases b with _|⟨c,b⟩<;>simp_all[p9])];done)
    |(exfalso;clear hz hb hk IH;rcases b with _|⟨c,b⟩<;>simp_all;done)
    |skip
   all_goals
    refine gO F123 ?_;refine aa.back (IH (k+1) ⟨by omega,jI hk.2 hz (by clear hz hb hk IH;rcases b with _|⟨c,b⟩<;>simp_all[p9])⟩ (by omega)) ?_;exact sZ
  ·have aL:l.length<=k:=by simpa using h5
   refine gO F123 ?_;rw[nW hk.2 (by simp;omega)]
def vD(ad:Text)(s:Signed)(o:Bool):Bool:=nY s.sigs ad && !(!o&&decide ((s.sigs.length:Int)>0))
def C6(z:aQ):Bool:=(z.ab.zip (rL z)).all fun p=>vD z.ad p.1 p.2
theorem Nv(z:aQ)(hl:z.ab.length<=1000000)(hn:∀ s∈z.ab,s.set.name.length<=1000):az E 124 [z.enc] (· = .bool (C6 z)):=by
 have Hh:=Hg z;unfold C6;refine eP F124 ?_
 with_reducible refine aj (Wv z hl hn) ?_
 refine gO F124 ?_;generalize rL z=O at *;obtain⟨ad,l⟩:=z;simp only at *;refine aa.loop (κ:=Nat) ([2,4]++rg 7 34) (fun k=>[(4,.d (.int .i64 k))]) (fun _=>[]) (fun k=>k<=l.length/\((l.zip O).take k).all (fun p=>vD ad p.1 p.2)=true) (fun k=>l.length-k) 0 ⟨Nat.zero_le _,rfl⟩ ?_ ?_
 ·exact sZ
 ·intro k hk IH;refine aa.head ag F124 2000 ?_;(conv=>whnf);refine ar (fun h5=>?_) (fun h5=>?_)
  ·have ai:k<l.length:=by simpa using h5
   obtain⟨x,hx⟩:=bd ai;obtain⟨b,hb⟩:=bd (l:=O) (k:=k) (by omega);have hz:=xF hx hb;refine gO F124 ?_;refine aa.draw ag bU 27 2000 (by kernel_rfl) ?_;(conv=>whnf);repeat' (first|with_reducible(first|refine aD (aU hx) rfl ?_|refine aD (aU hb) rfl ?_|refine aj (Ng _ _) ?_|refine bl (Ng _ _) ?_|refine cY ?_|refine cN ?_|refine ar (fun _=>?_) (fun _=>?_))|refine gA F124 ?_|refine gB ?_|refine gC ?_|with_reducible rfl)
   all_goals first
    |(rw[iV hz (by clear hz hb hk IH;simp_all[vD])];done)
    |(exfalso;clear hz hb hk IH;simp_all;done)
    |skip
   all_goals
    refine gO F124 ?_;refine aa.back (IH (k+1) ⟨by omega,jI hk.2 hz (by clear hz hb hk IH;simp_all[vD])⟩ (by omega)) ?_;exact sZ
  ·have aL:l.length<=k:=by simpa using h5
   refine gO F124 ?_;rw[nW hk.2 (by simp;omega)]
def eF(z:aQ):Bool:=n4 z&&(rJ z&&(mo [] none z.ab&&(Am z&&C6 z)))
theorem Nw{α:Type}{ok:α->Bool}{rel:α->α->Bool}:∀ {p:Option α} {l:List α},chain ok rel p l=true->∀ x∈l,ok x=true
 |_,[],_,x,hx=>by simp at hx
 |p,y::l,h,x,hx=>by
  simp only[chain,Bool.and_eq_true]at h;rcases List.mem_cons.1 hx with rfl|hx
  ·exact h.1.1
  ·exact Nw h.2 x hx
theorem vE{z:aQ}(h:n4 z=true):z.ab.length<=20000/\(∀ s∈z.ab,fF z.ad s=true)/\Nm.valid z.ad=true:=by
 simp only[n4,Bool.and_eq_true]at h;refine⟨by have:=h.1.2;simp at this;omega,Nw h.2,h.1.1.1⟩
theorem Ww{ad:Text}{s:Signed}(h:fF ad s=true):s.set.name.length<=60:=by
 simp only[fF,Bool.and_eq_true]at h;exact dF (vC h.1)
theorem Nx(z:aQ)(hf:z.Fits):az E 79 [z.enc] (· = .bool (eF z)):=by
 unfold eF;cases h1:n4 z
 ·have cj:=Ns z hf;rw[h1]at cj;refine eP Tryz.func79 ?_;repeat' (first|with_reducible(first|refine aj (cj) ?_|refine bl (cj) ?_|refine cY ?_|refine cN ?_|refine ar (fun _=>?_) (fun _=>?_))|refine gA Tryz.func79 ?_|refine gB ?_|refine gC ?_|with_reducible rfl)
  all_goals simp_all
 ·obtain⟨g1,g2,-⟩:=vE h1;have gl:z.ab.length<=1000000:=by omega
  have gn:∀ s∈z.ab,s.set.name.length<=1000:=fun s hs=>by have:=Ww (g2 s hs);omega
  have cj:=Ns z hf;rw[h1]at cj;refine eP Tryz.func79 ?_;repeat' (first|with_reducible(first|refine aj (cj) ?_|refine bl (cj) ?_|refine aj (Nk z (by omega)) ?_|refine bl (Nk z (by omega)) ?_|refine aj (Nl z (by omega)) ?_|refine bl (Nl z (by omega)) ?_|refine aj (Nu z gl gn) ?_|refine bl (Nu z gl gn) ?_|refine aj (Nv z gl gn) ?_|refine bl (Nv z gl gn) ?_|refine cY ?_|refine cN ?_|refine ar (fun _=>?_) (fun _=>?_))|refine gA Tryz.func79 ?_|refine gB ?_|refine gC ?_|with_reducible rfl)
  all_goals simp_all
end Go.Proofs.YtcmnpelmmekdkaaGreatDoor.P
end

/- Several texts of mine, one behind the other. Conditions: as each says. -/
import Derived.Test.YtcmnpelmmekdkaaGreatDoorY3
import Derived.Test.YtcmnpelmmekdkaaGreatDoorY4
set_option linter.unusedVariables false
set_option linter.unusedSimpArgs false
section
namespace Go.Proofs.YtcmnpelmmekdkaaGreatDoor
open Go Go.ax
def Cr:DV := .agg [.int .i64 0,.int .i64 0,.int .i64 0,.int .i64 0,.int .i64 0,.bool false,.bool false,.bool false,.int .i64 0,.int .i64 1,.int .i64 1000000,.int .i64 0,.int .i64 0,.bool false,.bool false,.bool true,.int .i64 1,.int .i64 0,.int .i64 0,.int .i64 0,.int .i64 0,.bool false,.bool false,.bool false,.int .i64 1,.int .i64 0,.int .i64 0,.int .i64 0,.int .i64 0,.bool false,.bool true,.bool false,.int .i64 0,.int .i64 0,.int .i64 65535,.int .i64 0,.int .i64 100000,.bool false,.bool true,.bool false,.int .i64 3,.int .i64 0,.int .i64 0,.int .i64 0,.int .i64 0,.bool false,.bool false,.bool true,.int .i64 0,.int .i64 1,.int .i64 1000000,.int .i64 1,.int .i64 3,.bool false,.bool false,.bool false,.int .i64 0,.int .i64 1,.int .i64 1000000,.int .i64 1,.int .i64 3,.bool false,.bool false,.bool false,.int .i64 2,.int .i64 2,.int .i64 510,.int .i64 0,.int .i64 0,.bool true,.bool false,.bool true]
def types:List bB:=[
 ⟨.other,1,0,[]⟩,
 ⟨.func,1,8,[.aD]⟩,
 ⟨.int .i64,1,8,[.int .i64 0]⟩,
 ⟨.int .i64,1,8,[.int .i64 0]⟩,
 ⟨.bool,1,1,[.bool false]⟩,
 ⟨.int .u8,1,1,[.int .u8 0]⟩,
 ⟨.int .u8,1,1,[.int .u8 0]⟩,
 ⟨.struct [(0,2),(1,3),(2,4),(3,6)],4,24,[.int .i64 0,.int .i64 0,.bool false,.int .u8 0]⟩,
 ⟨.struct [(0,2),(1,3),(2,4),(3,6)],4,24,[.int .i64 0,.int .i64 0,.bool false,.int .u8 0]⟩,
 ⟨.string,1,16,[.str []]⟩,
 ⟨.string,1,16,[.str []]⟩,
 ⟨.string,1,16,[.str []]⟩,
 ⟨.int .u64,1,8,[.int .u64 0]⟩,
 ⟨.struct [(0,9),(1,12)],2,24,[.str [],.int .u64 0]⟩,
 ⟨.struct [(0,9),(1,12)],2,24,[.str [],.int .u64 0]⟩,
 ⟨.pointer 293,1,8,[.eD]⟩,
 ⟨.pointer 296,1,8,[.eD]⟩,
 ⟨.pointer 303,1,8,[.eD]⟩,
 ⟨.struct [(0,17)],1,8,[.eD]⟩,
 ⟨.struct [(0,17)],1,8,[.eD]⟩,
 ⟨.iface,1,16,[.mr]⟩,
 ⟨.int .i32,1,4,[.int .i32 0]⟩,
 ⟨.slice 69,1,24,[.a8]⟩,
 ⟨.slice 52,1,24,[.a8]⟩,
 ⟨.slice 59,1,24,[.a8]⟩,
 ⟨.struct [(0,9),(1,3),(2,3),(3,24)],4,56,[.str [],.int .i64 0,.int .i64 0,.a8]⟩,
 ⟨.struct [(0,9),(1,3),(2,3),(3,24)],4,56,[.str [],.int .i64 0,.int .i64 0,.a8]⟩,
 ⟨.slice 3,1,24,[.a8]⟩,
 ⟨.struct [(0,22),(1,23),(2,26),(6,27)],7,128,[.a8,.a8,.str [],.int .i64 0,.int .i64 0,.a8,.a8]⟩,
 ⟨.struct [(0,22),(1,23),(2,26),(6,27)],7,128,[.a8,.a8,.str [],.int .i64 0,.int .i64 0,.a8,.a8]⟩,
 ⟨.func,1,8,[.aD]⟩,
 ⟨.func,1,8,[.aD]⟩,
 ⟨.slice 9,1,24,[.a8]⟩,
 ⟨.int .i64,1,8,[.int .i64 0]⟩,
 ⟨.other,1,0,[]⟩,
 ⟨.func,1,8,[.aD]⟩,
 ⟨.other,1,0,[]⟩,
 ⟨.func,1,8,[.aD]⟩,
 ⟨.slice 54,1,24,[.a8]⟩,
 ⟨.other,1,0,[]⟩,
 ⟨.func,1,8,[.aD]⟩,
 ⟨.func,1,8,[.aD]⟩,
 ⟨.func,1,8,[.aD]⟩,
 ⟨.func,1,8,[.aD]⟩,
 ⟨.func,1,8,[.aD]⟩,
 ⟨.func,1,8,[.aD]⟩,
 ⟨.func,1,8,[.aD]⟩,
 ⟨.func,1,8,[.aD]⟩,
 ⟨.slice 57,1,24,[.a8]⟩,
 ⟨.struct [(0,9),(1,48)],2,40,[.str [],.a8]⟩,
 ⟨.struct [(0,9),(1,48)],2,40,[.str [],.a8]⟩,
 ⟨.struct [(0,3),(1,50)],3,48,[.int .i64 0,.str [],.a8]⟩,
 ⟨.struct [(0,3),(1,50)],3,48,[.int .i64 0,.str [],.a8]⟩,
 ⟨.struct [(0,9),(1,3)],2,24,[.str [],.int .i64 0]⟩,
 ⟨.struct [(0,9),(1,3)],2,24,[.str [],.int .i64 0]⟩,
 ⟨.slice 210,1,24,[.a8]⟩,
 ⟨.struct [(0,26),(4,55)],5,80,[.str [],.int .i64 0,.int .i64 0,.a8,.a8]⟩,
 ⟨.struct [(0,26),(4,55)],5,80,[.str [],.int .i64 0,.int .i64 0,.a8,.a8]⟩,
 ⟨.struct [(0,9),(1,3),(2,3)],3,32,[.str [],.int .i64 0,.int .i64 0]⟩,
 ⟨.struct [(0,9),(1,3),(2,3)],3,32,[.str [],.int .i64 0,.int .i64 0]⟩,
 ⟨.func,1,8,[.aD]⟩,
 ⟨.func,1,8,[.aD]⟩,
 ⟨.func,1,8,[.aD]⟩,
 ⟨.struct [(0,3),(1,48),(2,9)],3,48,[.int .i64 0,.a8,.str []]⟩,
 ⟨.struct [(0,3),(1,48),(2,9)],3,48,[.int .i64 0,.a8,.str []]⟩,
 ⟨.other,1,0,[]⟩,
 ⟨.func,1,8,[.aD]⟩,
 ⟨.map 3 4,1,8,[.gN]⟩,
 ⟨.struct [(0,9),(1,3),(2,3)],3,32,[.str [],.int .i64 0,.int .i64 0]⟩,
 ⟨.struct [(0,9),(1,3),(2,3)],3,32,[.str [],.int .i64 0,.int .i64 0]⟩,
 ⟨.func,1,8,[.aD]⟩,
 ⟨.func,1,8,[.aD]⟩,
 ⟨.slice 75,1,24,[.a8]⟩,
 ⟨.func,1,8,[.aD]⟩,
 ⟨.struct [(0,9),(1,38),(2,32)],3,64,[.str [],.a8,.a8]⟩,
 ⟨.struct [(0,9),(1,38),(2,32)],3,64,[.str [],.a8,.a8]⟩,
 ⟨.func,1,8,[.aD]⟩,
 ⟨.func,1,8,[.aD]⟩,
 ⟨.map 9 4,1,8,[.gN]⟩,
 ⟨.func,1,8,[.aD]⟩,
 ⟨.func,1,8,[.aD]⟩,
 ⟨.func,1,8,[.aD]⟩,
 ⟨.func,1,8,[.aD]⟩,
 ⟨.func,1,8,[.aD]⟩,
 ⟨.func,1,8,[.aD]⟩,
 ⟨.func,1,8,[.aD]⟩,
 ⟨.func,1,8,[.aD]⟩,
 ⟨.func,1,8,[.aD]⟩,
 ⟨.func,1,8,[.aD]⟩,
 ⟨.slice 96,1,24,[.a8]⟩,
 ⟨.func,1,8,[.aD]⟩,
 ⟨.map 9 50,1,8,[.gN]⟩,
 ⟨.map 9 50,1,8,[.gN]⟩,
 ⟨.func,1,8,[.aD]⟩,
 ⟨.func,1,8,[.aD]⟩,
 ⟨.struct [(0,9),(1,32),(2,3),(3,54)],5,72,[.str [],.a8,.int .i64 0,.str [],.int .i64 0]⟩,
 ⟨.struct [(0,9),(1,32),(2,3),(3,54)],5,72,[.str [],.a8,.int .i64 0,.str [],.int .i64 0]⟩,
 ⟨.func,1,8,[.aD]⟩,
 ⟨.func,1,8,[.aD]⟩,
 ⟨.func,1,8,[.aD]⟩,
 ⟨.func,1,8,[.aD]⟩,
 ⟨.other,1,0,[]⟩,
 ⟨.func,1,8,[.aD]⟩,
 ⟨.pointer 107,1,8,[.eD]⟩,
 ⟨.func,1,8,[.aD]⟩,
 ⟨.map 54 3,1,8,[.gN]⟩,
 ⟨.struct [(0,9),(1,48),(2,105),(3,54),(5,9),(6,4),(7,9)],8,112,[.str [],.a8,.gN,.str [],.int .i64 0,.str [],.bool false,.str []]⟩,
 ⟨.struct [(0,9),(1,48),(2,105),(3,54),(5,9),(6,4),(7,9)],8,112,[.str [],.a8,.gN,.str [],.int .i64 0,.str [],.bool false,.str []]⟩,
 ⟨.func,1,8,[.aD]⟩,
 ⟨.slice 108,1,24,[.a8]⟩,
 ⟨.other,1,0,[]⟩,
 ⟨.func,1,8,[.aD]⟩,
 ⟨.func,1,8,[.aD]⟩,
 ⟨.map 9 3,1,8,[.gN]⟩,
 ⟨.struct [(0,29),(7,113)],8,136,[.a8,.a8,.str [],.int .i64 0,.int .i64 0,.a8,.a8,.gN]⟩,
 ⟨.struct [(0,29),(7,113)],8,136,[.a8,.a8,.str [],.int .i64 0,.int .i64 0,.a8,.a8,.gN]⟩,
 ⟨.func,1,8,[.aD]⟩,
 ⟨.func,1,8,[.aD]⟩,
 ⟨.func,1,8,[.aD]⟩,
 ⟨.slice 123,1,24,[.a8]⟩,
 ⟨.other,1,0,[]⟩,
 ⟨.func,1,8,[.aD]⟩,
 ⟨.struct [(0,54),(2,9)],3,40,[.str [],.int .i64 0,.str []]⟩,
 ⟨.struct [(0,54),(2,9)],3,40,[.str [],.int .i64 0,.str []]⟩,
 ⟨.func,1,8,[.aD]⟩,
 ⟨.func,1,8,[.aD]⟩,
 ⟨.func,1,8,[.aD]⟩,
 ⟨.func,1,8,[.aD]⟩,
 ⟨.func,1,8,[.aD]⟩,
 ⟨.string,1,16,[.str []]⟩,
 ⟨.func,1,8,[.aD]⟩,
 ⟨.func,1,8,[.aD]⟩,
 ⟨.other,1,0,[]⟩,
 ⟨.func,1,8,[.aD]⟩,
 ⟨.func,1,8,[.aD]⟩,
 ⟨.func,1,8,[.aD]⟩,
 ⟨.func,1,8,[.aD]⟩,
 ⟨.struct [(0,89)],1,24,[.a8]⟩,
 ⟨.struct [(0,89)],1,24,[.a8]⟩,
 ⟨.func,1,8,[.aD]⟩,
 ⟨.other,1,0,[]⟩,
 ⟨.func,1,8,[.aD]⟩,
 ⟨.slice 189,1,24,[.a8]⟩,
 ⟨.struct [(0,32),(1,142)],2,48,[.a8,.a8]⟩,
 ⟨.struct [(0,32),(1,142)],2,48,[.a8,.a8]⟩,
 ⟨.func,1,8,[.aD]⟩,
 ⟨.func,1,8,[.aD]⟩,
 ⟨.func,1,8,[.aD]⟩,
 ⟨.func,1,8,[.aD]⟩,
 ⟨.map 9 152,1,8,[.gN]⟩,
 ⟨.func,1,8,[.aD]⟩,
 ⟨.struct [(0,3),(1,3)],2,16,[.int .i64 0,.int .i64 0]⟩,
 ⟨.struct [(0,3),(1,3)],2,16,[.int .i64 0,.int .i64 0]⟩,
 ⟨.other,1,0,[]⟩,
 ⟨.func,1,8,[.aD]⟩,
 ⟨.other,1,0,[]⟩,
 ⟨.func,1,8,[.aD]⟩,
 ⟨.struct [(0,50)],2,40,[.str [],.a8]⟩,
 ⟨.struct [(0,50)],2,40,[.str [],.a8]⟩,
 ⟨.other,1,0,[]⟩,
 ⟨.func,1,8,[.aD]⟩,
 ⟨.other,1,0,[]⟩,
 ⟨.func,1,8,[.aD]⟩,
 ⟨.func,1,8,[.aD]⟩,
 ⟨.func,1,8,[.aD]⟩,
 ⟨.func,1,8,[.aD]⟩,
 ⟨.func,1,8,[.aD]⟩,
 ⟨.func,1,8,[.aD]⟩,
 ⟨.func,1,8,[.aD]⟩,
 ⟨.func,1,8,[.aD]⟩,
 ⟨.func,1,8,[.aD]⟩,
 ⟨.func,1,8,[.aD]⟩,
 ⟨.func,1,8,[.aD]⟩,
 ⟨.map 175 4,1,8,[.gN]⟩,
 ⟨.struct [(0,3),(1,9)],2,24,[.int .i64 0,.str []]⟩,
 ⟨.struct [(0,3),(1,9)],2,24,[.int .i64 0,.str []]⟩,
 ⟨.func,1,8,[.aD]⟩,
 ⟨.func,1,8,[.aD]⟩,
 ⟨.func,1,8,[.aD]⟩,
 ⟨.func,1,8,[.aD]⟩,
 ⟨.func,1,8,[.aD]⟩,
 ⟨.int .u64,1,8,[.int .u64 0]⟩,
 ⟨.func,1,8,[.aD]⟩,
 ⟨.func,1,8,[.aD]⟩,
 ⟨.other,1,0,[]⟩,
 ⟨.func,1,8,[.aD]⟩,
 ⟨.func,1,8,[.aD]⟩,
 ⟨.pointer 138,1,8,[.eD]⟩,
 ⟨.struct [(0,54),(2,9)],3,40,[.str [],.int .i64 0,.str []]⟩,
 ⟨.struct [(0,54),(2,9)],3,40,[.str [],.int .i64 0,.str []]⟩,
 ⟨.func,1,8,[.aD]⟩,
 ⟨.other,1,0,[]⟩,
 ⟨.func,1,8,[.aD]⟩,
 ⟨.func,1,8,[.aD]⟩,
 ⟨.func,1,8,[.aD]⟩,
 ⟨.func,1,8,[.aD]⟩,
 ⟨.func,1,8,[.aD]⟩,
 ⟨.func,1,8,[.aD]⟩,
 ⟨.struct [(0,158),(2,32)],3,64,[.str [],.a8,.a8]⟩,
 ⟨.struct [(0,158),(2,32)],3,64,[.str [],.a8,.a8]⟩,
 ⟨.func,1,8,[.aD]⟩,
 ⟨.func,1,8,[.aD]⟩,
 ⟨.func,1,8,[.aD]⟩,
 ⟨.func,1,8,[.aD]⟩,
 ⟨.func,1,8,[.aD]⟩,
 ⟨.func,1,8,[.aD]⟩,
 ⟨.func,1,8,[.aD]⟩,
 ⟨.func,1,8,[.aD]⟩,
 ⟨.int .u64,1,8,[.int .u64 0]⟩,
 ⟨.struct [(0,9),(1,3),(2,3),(3,3),(4,3),(5,208)],6,56,[.str [],.int .i64 0,.int .i64 0,.int .i64 0,.int .i64 0,.int .u64 0]⟩,
 ⟨.struct [(0,9),(1,3),(2,3),(3,3),(4,3),(5,208)],6,56,[.str [],.int .i64 0,.int .i64 0,.int .i64 0,.int .i64 0,.int .u64 0]⟩,
 ⟨.func,1,8,[.aD]⟩,
 ⟨.func,1,8,[.aD]⟩,
 ⟨.func,1,8,[.aD]⟩,
 ⟨.func,1,8,[.aD]⟩,
 ⟨.func,1,8,[.aD]⟩,
 ⟨.func,1,8,[.aD]⟩,
 ⟨.func,1,8,[.aD]⟩,
 ⟨.func,1,8,[.aD]⟩,
 ⟨.func,1,8,[.aD]⟩,
 ⟨.func,1,8,[.aD]⟩,
 ⟨.func,1,8,[.aD]⟩,
 ⟨.func,1,8,[.aD]⟩,
 ⟨.func,1,8,[.aD]⟩,
 ⟨.struct [(0,3),(1,3),(2,3),(3,3),(4,3),(5,4),(6,4),(7,4)],8,48,[.int .i64 0,.int .i64 0,.int .i64 0,.int .i64 0,.int .i64 0,.bool false,.bool false,.bool false]⟩,
 ⟨.struct [(0,3),(1,3),(2,3),(3,3),(4,3),(5,4),(6,4),(7,4)],8,48,[.int .i64 0,.int .i64 0,.int .i64 0,.int .i64 0,.int .i64 0,.bool false,.bool false,.bool false]⟩,
 ⟨.array 9 225,72,432,[.int .i64 0,.int .i64 0,.int .i64 0,.int .i64 0,.int .i64 0,.bool false,.bool false,.bool false,.int .i64 0,.int .i64 0,.int .i64 0,.int .i64 0,.int .i64 0,.bool false,.bool false,.bool false,.int .i64 0,.int .i64 0,.int .i64 0,.int .i64 0,.int .i64 0,.bool false,.bool false,.bool false,.int .i64 0,.int .i64 0,.int .i64 0,.int .i64 0,.int .i64 0,.bool false,.bool false,.bool false,.int .i64 0,.int .i64 0,.int .i64 0,.int .i64 0,.int .i64 0,.bool false,.bool false,.bool false,.int .i64 0,.int .i64 0,.int .i64 0,.int .i64 0,.int .i64 0,.bool false,.bool false,.bool false,.int .i64 0,.int .i64 0,.int .i64 0,.int .i64 0,.int .i64 0,.bool false,.bool false,.bool false,.int .i64 0,.int .i64 0,.int .i64 0,.int .i64 0,.int .i64 0,.bool false,.bool false,.bool false,.int .i64 0,.int .i64 0,.int .i64 0,.int .i64 0,.int .i64 0,.bool false,.bool false,.bool false]⟩,
 ⟨.func,1,8,[.aD]⟩,
 ⟨.func,1,8,[.aD]⟩,
 ⟨.func,1,8,[.aD]⟩,
 ⟨.func,1,8,[.aD]⟩,
 ⟨.int .i64,1,8,[.int .i64 0]⟩,
 ⟨.other,1,0,[]⟩,
 ⟨.func,1,8,[.aD]⟩,
 ⟨.func,1,8,[.aD]⟩,
 ⟨.func,1,8,[.aD]⟩,
 ⟨.func,1,8,[.aD]⟩,
 ⟨.func,1,8,[.aD]⟩,
 ⟨.int .u32,1,4,[.int .u32 0]⟩,
 ⟨.func,1,8,[.aD]⟩,
 ⟨.func,1,8,[.aD]⟩,
 ⟨.func,1,8,[.aD]⟩,
 ⟨.func,1,8,[.aD]⟩,
 ⟨.func,1,8,[.aD]⟩,
 ⟨.func,1,8,[.aD]⟩,
 ⟨.slice 4,1,24,[.a8]⟩,
 ⟨.func,1,8,[.aD]⟩,
 ⟨.func,1,8,[.aD]⟩,
 ⟨.func,1,8,[.aD]⟩,
 ⟨.func,1,8,[.aD]⟩,
 ⟨.func,1,8,[.aD]⟩,
 ⟨.func,1,8,[.aD]⟩,
 ⟨.func,1,8,[.aD]⟩,
 ⟨.func,1,8,[.aD]⟩,
 ⟨.func,1,8,[.aD]⟩,
 ⟨.func,1,8,[.aD]⟩,
 ⟨.func,1,8,[.aD]⟩,
 ⟨.func,1,8,[.aD]⟩,
 ⟨.int .u64,1,8,[.int .u64 0]⟩,
 ⟨.func,1,8,[.aD]⟩,
 ⟨.func,1,8,[.aD]⟩,
 ⟨.func,1,8,[.aD]⟩,
 ⟨.pointer 3,1,8,[.eD]⟩,
 ⟨.func,1,8,[.aD]⟩,
 ⟨.func,1,8,[.aD]⟩,
 ⟨.func,1,8,[.aD]⟩,
 ⟨.func,1,8,[.aD]⟩,
 ⟨.func,1,8,[.aD]⟩,
 ⟨.func,1,8,[.aD]⟩,
 ⟨.func,1,8,[.aD]⟩,
 ⟨.func,1,8,[.aD]⟩,
 ⟨.pointer 274,1,8,[.eD]⟩,
 ⟨.slice 5,1,24,[.a8]⟩,
 ⟨.struct [(0,271),(1,272)],2,32,[.eD,.a8]⟩,
 ⟨.struct [(0,271),(1,272)],2,32,[.eD,.a8]⟩,
 ⟨.func,1,8,[.aD]⟩,
 ⟨.iface,1,16,[.mr]⟩,
 ⟨.iface,1,16,[.mr]⟩,
 ⟨.other,1,0,[]⟩,
 ⟨.func,1,8,[.aD]⟩,
 ⟨.func,1,8,[.aD]⟩,
 ⟨.pointer 258,1,8,[.eD]⟩,
 ⟨.other,1,0,[]⟩,
 ⟨.func,1,8,[.aD]⟩,
 ⟨.func,1,8,[.aD]⟩,
 ⟨.func,1,8,[.aD]⟩,
 ⟨.func,1,8,[.aD]⟩,
 ⟨.pointer 5,1,8,[.eD]⟩,
 ⟨.func,1,8,[.aD]⟩,
 ⟨.other,1,8,[.eD]⟩,
 ⟨.func,1,8,[.aD]⟩,
 ⟨.func,1,8,[.aD]⟩,
 ⟨.struct [(0,17),(1,17),(2,17),(3,9)],4,40,[.eD,.eD,.eD,.str []]⟩,
 ⟨.struct [(0,17),(1,17),(2,17),(3,9)],4,40,[.eD,.eD,.eD,.str []]⟩,
 ⟨.array 0 16,0,0,[]⟩,
 ⟨.struct [(0,294)],0,0,[]⟩,
 ⟨.struct [(0,294)],0,0,[]⟩,
 ⟨.int .u8,1,1,[.int .u8 0]⟩,
 ⟨.int .u8,1,1,[.int .u8 0]⟩,
 ⟨.func,1,8,[.aD]⟩,
 ⟨.int .i32,1,4,[.int .i32 0]⟩,
 ⟨.int .i32,1,4,[.int .i32 0]⟩,
 ⟨.struct [(0,12),(1,12),(2,238),(3,297),(4,5),(5,5),(6,298),(7,299),(8,287),(9,300),(10,301)],11,48,[.int .u64 0,.int .u64 0,.int .u32 0,.int .u8 0,.int .u8 0,.int .u8 0,.int .u8 0,.aD,.eD,.int .i32 0,.int .i32 0]⟩,
 ⟨.struct [(0,12),(1,12),(2,238),(3,297),(4,5),(5,5),(6,298),(7,299),(8,287),(9,300),(10,301)],11,48,[.int .u64 0,.int .u64 0,.int .u32 0,.int .u8 0,.int .u8 0,.int .u8 0,.int .u8 0,.aD,.eD,.int .i32 0,.int .i32 0]⟩]
def Cs:List (Nat × DV):=[(0,Cr)]
noncomputable def E:Env:=⟨Tryz.prog,types,Cs,[54,59,69,152,175,210,225]⟩
theorem bW:E.P.follows .mixedOrders=true:=by kernel_rfl
theorem Uw:(List.range 304).map (eN Tryz.prog)=types.map some:=by kernel_rfl
theorem Ux:E.Q.all (Ba E.P)=true:=by kernel_rfl
theorem aj:E.OK:=⟨fun t i hi=>by
 have h:=congrArg (·[t]?) Uw;simp only [List.getElem?_map] at h;have cO:types[t]? = some i:=hi;rw [cO] at h;cases hr:(List.range 304)[t]? with
 |none=>rw [hr] at h; cases h
 |some u =>
  have hu:u=t:=by
   have ai:t<304:=by
    rcases Nat.lt_or_ge t 304 with h | h
    ·exact h
    ·rw [List.getElem?_eq_none (by simpa using h)] at hr; cases hr
   simp [ai] at hr;exact hr.symm
  subst hu;rw [hr] at h;have h2:eN Tryz.prog u=some i:=by simpa using h
  exact h2,fun t ht=>List.all_eq_true.1 Ux t ht⟩
end Go.Proofs.YtcmnpelmmekdkaaGreatDoor
end
section
namespace Go.Proofs.YtcmnpelmmekdkaaGreatDoor.P
open Go Go.ax
abbrev Text:=List UInt8
structure Datum where
 text:Text
 n:Int
 m:Int
 deriving DecidableEq
structure eu where
 name:Text
 type:Int
 gy:Int
 data:List Datum
 deriving DecidableEq
structure Key where
 n:Int
 nE:Int
 deriving DecidableEq
structure gW where
 ay:Text
 key:Int
 nE:Int
 oD:Int
 upto:Int
 sum:Int
 deriving DecidableEq
structure Signed where
 set:eu
 sigs:List gW
 deriving DecidableEq
structure aU where
 ab:Text
 af:List Signed
 deriving DecidableEq
@[reducible] def Datum.enc (d : Datum) : DV := .agg [.str d.text, .int .i64 d.n, .int .i64 d.m]
@[reducible] def Mb (l : List Datum) : DV := .sl (l.map Datum.enc)
@[reducible] def eu.enc (s : eu) : DV := .agg [.str s.name, .int .i64 s.type, .int .i64 s.gy, Mb s.data]
@[reducible] def Key.enc (k : Key) : DV := .agg [.int .i64 k.n, .int .i64 k.nE]
@[reducible] def gW.enc (g : gW) : DV := .agg [.str g.ay, .int .i64 g.key, .int .i64 g.nE, .int .i64 g.oD, .int .i64 g.upto, .int .u64 g.sum]
@[reducible] def Gx (l : List gW) : DV := .sl (l.map gW.enc)
@[reducible] def Signed.enc (x : Signed) : DV := .agg [.str x.set.name, .int .i64 x.set.type, .int .i64 x.set.gy, Mb x.set.data, Gx x.sigs]
@[reducible] def zH (l : List Signed) : DV := .sl (l.map Signed.enc)
@[reducible] def aU.enc (z : aU) : DV := .agg [.str z.ab, zH z.af]
def js (n:Int):Prop := -9223372036854775808≤n∧n≤9223372036854775807
theorem wrap64 {n:Int} (h1 : -9223372036854775808≤n) (h2:n≤9223372036854775807):IntKind.i64.wrap n=n:=by
 rw [IntWalk.i64_in n ⟨h1,h2⟩]
theorem gO {ae:FuncId} {fn:Func} (hf:E.P.funcs[ae]? = some fn) {R:bY} {lits:List Nat} {td:List aG} {s:List AV} {h:List ag} {P Q:Prop} (H:Q) (e0:P=aa E ae R lits td s h:=by (conv=>lhs; whnf)) (e1:runK E ae fn.results.toList R 2000 lits td s h=Q:=by (conv=>lhs; whnf)):P:=by
 rw [e0];exact aa.run aj hf 2000 (e1 ▸ H)
theorem gD {ae:FuncId} {R:bY} {ops:Array Oper} {k:List aG} {lits:List Nat} {pre aW:List Oper} {s:List AV} {h:List ag} {P Q:Prop} (H:Q) (e0:P=cb E ae R ops k lits pre aW s h:=by (conv=>lhs; whnf)) (e1:lU E ae R ops k 2000 lits pre aW s h=Q:=by (conv=>lhs; whnf)):P:=by
 rw [e0];exact cb.run aj 2000 (e1 ▸ H)
theorem gS {ae:FuncId} {R:bY} {ops:Array Oper} {k:List aG} {lits:List Nat} {aW:List Oper} {s:List AV} {h:List ag} {P Q:Prop} (H:Q) (e0:P=cZ E ae R ops k lits aW s h:=by (conv=>lhs; whnf)) (e1:oz E ae R ops k 2000 lits aW s h=Q:=by (conv=>lhs; whnf)):P:=by
 rw [e0];exact cZ.run aj 2000 (e1 ▸ H)
theorem gA {ae:FuncId} {fn:Func} (hf:E.P.funcs[ae]? = some fn) {R:bY} {lits:List Nat} {td:List aG} {s:List AV} {h:List ag} {P Q:Prop} (H:Q) (e0:P=aa E ae R lits td s h:=by (conv=>lhs; whnf)) (e1:runK E ae fn.results.toList R 2000 lits td s h=Q:=by (conv=>lhs; whnf)) (_:Q→Q:=by (intro h; (fail_if_success (with_reducible refine aa.of ?_)); exact h)):P:=gO hf H e0 e1
theorem gB {ae:FuncId} {R:bY} {ops:Array Oper} {k:List aG} {lits:List Nat} {pre aW:List Oper} {s:List AV} {h:List ag} {P Q:Prop} (H:Q) (e0:P=cb E ae R ops k lits pre aW s h:=by (conv=>lhs; whnf)) (e1:lU E ae R ops k 2000 lits pre aW s h=Q:=by (conv=>lhs; whnf)) (_:Q→Q:=by (intro h; (fail_if_success (with_reducible refine cb.is ?_)); exact h)):P:=gD H e0 e1
theorem gC {ae:FuncId} {R:bY} {ops:Array Oper} {k:List aG} {lits:List Nat} {aW:List Oper} {s:List AV} {h:List ag} {P Q:Prop} (H:Q) (e0:P=cZ E ae R ops k lits aW s h:=by (conv=>lhs; whnf)) (e1:oz E ae R ops k 2000 lits aW s h=Q:=by (conv=>lhs; whnf)) (_:Q→Q:=by (intro h; (fail_if_success (with_reducible refine cZ.is ?_)); exact h)):P:=gS H e0 e1
theorem eP {f : FuncId} {fn : Func} (hf : E.P.funcs[f]? = some fn) {args : List DV} {R : DV → Prop} {Q : Prop} (H : Q) (hb : fn.body = some (fn.body.getD .skip) := by rfl) (hn : (fn.name == "runtime.NumGoroutine") = false := by decide) (e : (nZ .d args fun a => runK E f fn.results.toList ⟨0, yB R, [], ⟨f, none, [], [], [], []⟩⟩ 2000 [] [.code (fn.body.getD .skip)] (nj a fn.ntmps) []) = Q := by (conv => lhs; whnf)) : aA E f args R := aA.run aj hf hb hn 2000 (e ▸ H)
def rg (a:Nat):Nat→List Nat
 | 0=>[]
 |n+1=>a::rg (a+1) n
theorem sI {P Q:Prop} (q:Q) (p:P:=by first | with_reducible rfl | exact congrArg (DV.int .i64) (by omega) | exact congrArg (DV.int .i64) (wrap64 (by omega) (by omega)) | exact congrArg (DV.int .i64) ((wrap64 (by omega) (by omega)).trans (by omega))):P∧Q:=⟨p,q⟩
theorem sZ {P:Prop} (h:P:=by ((conv=>whnf);repeat (first | exact trivial | (refine sI ?_; conv=>whnf)))):P:=h
theorem cY {b:Bool} {A B:Prop} (h:A) (hb:b=true:=by first | decide | assumption):kX b A B:=aM hb h
theorem cN {b:Bool} {A B:Prop} (h:B) (hb:b=false:=by first | decide | assumption):kX b A B:=aI hb h
end Go.Proofs.YtcmnpelmmekdkaaGreatDoor.P
end
section
namespace Go.Proofs.YtcmnpelmmekdkaaGreatDoor.P
open Go Go.ax
set_option maxRecDepth 100000
theorem Ct {f:FuncId} {g:List UInt8→DV} (t:List UInt8) (hb:qu E.P f) (h:∀ (w:World),Calls Tryz.prog f #[.string ⟨t.toArray⟩] w fun e w'=>∃ v,e = .returned v∧(∀ bad w,VD bad w (g t) v)∧Ext w w'):aA E f [.str t] (· = g t):=by
 unfold aA;refine ⟨hb,fun au w vs _ _ hv=>?_⟩;obtain ⟨hl,hv⟩:=hv;obtain ⟨v,rfl⟩:∃ v,vs=[v]:=by
  cases vs with
  |nil=>simp at hl
  |cons v r=>cases r with
   |nil=>exact ⟨v,rfl⟩
   |cons u r=>simp at hl
 have:=hv 0 (.str t) v rfl rfl;cases this;exact (h w).mono fun e w' ⟨v,h1,h2,h3⟩=>⟨v,_,h1,rfl,h2 _ _,h3⟩
theorem Gy {f:FuncId} {g:List UInt8→List UInt8→DV} (t u:List UInt8) (hb:qu E.P f) (h:∀ (w:World),Calls Tryz.prog f #[.string ⟨t.toArray⟩,.string ⟨u.toArray⟩] w fun e w'=>∃ v,e = .returned v∧(∀ bad w,VD bad w (g t u) v)∧Ext w w'):aA E f [.str t,.str u] (· = g t u):=by
 unfold aA;refine ⟨hb,fun au w vs _ _ hv=>?_⟩;obtain ⟨hl,hv⟩:=hv;obtain ⟨v1,v2,rfl⟩:∃ v1 v2,vs=[v1,v2]:=by
  match vs,hl with
  | [v1,v2],_=>exact ⟨v1,v2,rfl⟩
 have h1:=hv 0 (.str t) v1 rfl rfl;have h2:=hv 1 (.str u) v2 rfl rfl;cases h1;cases h2;exact (h w).mono fun e w' ⟨v,h1,h2,h3⟩=>⟨v,_,h1,rfl,h2 _ _,h3⟩
theorem jS (t:List UInt8):az ⟨t.toArray⟩=t:=by simp [az]
theorem size_mk {t:List UInt8} (h:t.length≤maxLen):(ByteArray.mk t.toArray).size≤maxLen:=by simpa [ByteArray.size] using h
theorem lk (t:List UInt8) (ht:t.length≤maxLen):aA E 32 [.str t] (· = .bool (Nm.valid t)) :=
 Ct (g:=fun t => .bool (Nm.valid t)) t ⟨_,Tryz.func32,rfl,by decide⟩ fun w=>(Up ⟨t.toArray⟩ w (size_mk ht)).mono fun e w' ⟨h1,h2⟩=>⟨_,h1,fun _ _=>by rw [jS]; exact .bool _,h2⟩
theorem fY (t:List UInt8) (ht:t.length≤maxLen):aA E 24 [.str t] (· = .bool (Nm.valid t)) :=
 Ct (g:=fun t => .bool (Nm.valid t)) t ⟨_,Tryz.func24,rfl,by decide⟩ fun w=>(TW ⟨t.toArray⟩ w (size_mk ht)).mono fun e w' ⟨h1,h2⟩=>⟨_,h1,fun _ _=>by rw [jS]; exact .bool _,h2⟩
theorem ju (t:List UInt8) (ht:t.length≤maxLen):aA E 186 [.str t] (· = .bool (Nm.gJ t)) :=
 Ct (g:=fun t => .bool (Nm.gJ t)) t ⟨_,Tryz.func186,rfl,by decide⟩ fun w=>(TX ⟨t.toArray⟩ w (size_mk ht)).mono fun e w' ⟨h1,h2⟩=>⟨_,h1,fun _ _=>by rw [jS]; exact .bool _,by subst h2; exact Ext.refl _⟩
theorem zI (x a b:Int):aA E 166 [.int .i64 x,.int .i64 a,.int .i64 b] (· = .bool (decide (a≤x)&&decide (x≤b))):=by
 refine eP Tryz.func166 ?_;refine aw (fun h=>?_) (fun h=>?_)
 ·refine gO Tryz.func166 ?_;rw [h]; rfl
 ·refine gO Tryz.func166 ?_;rw [h]; rfl
theorem Mc (x a b:Int):aA E 245 [.int .u8 x,.int .u8 a,.int .u8 b] (· = .bool (decide (a≤x)&&decide (x≤b))):=by
 refine eP Tryz.func245 ?_;refine aw (fun h=>?_) (fun h=>?_)
 ·refine gO Tryz.func245 ?_;rw [h]; rfl
 ·refine gO Tryz.func245 ?_;rw [h]; rfl
theorem Md (x:Int):aA E 204 [.int .i64 x] (· = .bool false):=by
 refine eP Tryz.func204 ?_;simp
theorem Me (x:List UInt8):aA E 246 [.str x] (· = .bool false):=by
 refine eP Tryz.func246 ?_;simp
def fZ (a b:Int):Int:=if a<b then -1 else if b<a then 1 else 0
theorem zJ (a b:Int):aA E 132 [.int .i64 a,.int .i64 b] (· = .int .i64 (fZ a b)):=by
 refine eP Tryz.func132 ?_;repeat' (first | with_reducible refine ar (Md _) ?_ | with_reducible refine bg (Md _) ?_ | with_reducible refine cY ?_ | with_reducible refine cN ?_ | with_reducible refine aw (fun _=>?_) (fun _=>?_) | refine gA Tryz.func132 ?_ | refine gB ?_ | refine gC ?_ | with_reducible rfl)
 all_goals (simp_all [fZ])
 all_goals omega
def wY (a b:List UInt8):Int:=if Op.bytesLess a b then -1 else if a=b then 0 else 1
theorem Uy (a b:List UInt8):aA E 218 [.str a,.str b] (· = .int .i64 (wY a b)):=by
 refine eP Tryz.func218 ?_;repeat' (first | with_reducible refine ar (Me _) ?_ | with_reducible refine bg (Me _) ?_ | with_reducible refine cY ?_ | with_reducible refine cN ?_ | with_reducible refine aw (fun _=>?_) (fun _=>?_) | refine gA Tryz.func218 ?_ | refine gB ?_ | refine gC ?_ | with_reducible rfl)
 all_goals (simp_all [wY])
end Go.Proofs.YtcmnpelmmekdkaaGreatDoor.P
end
section
namespace Go.Proofs.YtcmnpelmmekdkaaGreatDoor.P
open Go Go.ax
set_option maxRecDepth 100000
theorem ln {α:Type} {f:α→DV} {l:List α} {k:Nat} {x:α} (hx:l[k]? = some x):(l.map f)[((k:Nat):Int).toNat]? = some (f x):=by
 simp [hx]
theorem aY {α:Type} {l:List α} {k:Nat} (h:k<l.length):∃ x,l[k]? = some x:=⟨l[k],by simp [h]⟩
def oE:List Int→Int
 | []=>0
 |x::l=>if x=0 then oE l else x
theorem Gz {l:List Int}:∀ {k:Nat},(∀ j,j<k→l[j]? = some 0)→oE l=oE (l.drop k)
 | 0,_=>rfl
 |k+1,h=>by
  cases l with
  |nil=>rfl
  |cons x l =>
   have h0:=h 0 (by omega);simp at h0;subst h0;simp only [oE,if_true,List.drop_succ_cons];exact Gz fun j hj=>by have:=h (j+1) (by omega); simpa using this
theorem Mf (l:List Int) (hl:l.length≤2147483648):aA E 131 [.sl (l.map (.int .i64))] (· = .int .i64 (oE l)):=by
 refine eP Tryz.func131 ?_;refine aa.loop (κ:=Nat) ([2,5]++rg 8 9) (fun k=>[(8,.d (.int .i64 k)),(2,.d (.int .i64 0))]) (fun _=>[]) (fun k=>k≤l.length∧∀ j,j<k→l[j]? = some 0) (fun k=>l.length - k) 0 ⟨Nat.zero_le _,fun j h=>by omega⟩ ?_ ?_
 ·exact sZ
 ·intro k hk IH;refine aa.head aj Tryz.func131 2000 ?_;(conv=>whnf);refine aw (fun h1=>?_) (fun h1=>?_)
  ·simp at h1;obtain ⟨x,hx⟩:=aY h1;refine gO Tryz.func131 ?_;refine ee (.int .i64 x) (by omega) (ln hx) rfl ?_;refine gO Tryz.func131 ?_;refine aw (fun h2=>?_) (fun h2=>?_)
   ·refine gO Tryz.func131 ?_;have aJ:x≠0:=by simpa using h2
    rw [Gz hk.2,List.drop_eq_getElem_cons h1];have:l[k]=x:=by simpa [h1] using hx
    simp only [oE,this,if_neg aJ]
   ·refine gO Tryz.func131 ?_;have h0:x=0:=by simpa using h2
    subst h0;refine aa.back (IH (k+1) ⟨by omega,fun j hj=>?_⟩ (by omega)) ?_
    ·rcases Nat.lt_or_ge j k with h | h
     ·exact hk.2 j h
     ·obtain rfl:j=k:=by omega
      exact hx
    ·exact sZ
  ·simp at h1;refine gO Tryz.func131 ?_;rw [Gz hk.2,List.drop_of_length_le h1];rfl
def qX (a b:Datum):Int:=oE [wY a.text b.text,fZ a.n b.n,fZ a.m b.m]
theorem Uz (a b:Datum):aA E 169 [a.enc,b.enc] (· = .int .i64 (qX a b)):=by
 refine eP Tryz.func169 ?_;refine aa.draw aj bW 18 2000 (by kernel_rfl) ?_;conv=>whnf
 with_reducible refine bg (Uy _ _) ?_
 refine gD ?_
 with_reducible refine bg (zJ _ _) ?_
 refine gD ?_
 with_reducible refine bg (zJ _ _) ?_
 refine gD ?_;refine bg (Mf [wY a.text b.text,fZ a.n b.n,fZ a.m b.m] (by simp)) ?_;refine gD ?_;refine gS ?_;refine gO Tryz.func169 ?_;rfl
def preB (a b:List UInt8):Bool:=b.isPrefixOf a
theorem UA {a b:List UInt8}:(a.take b.length==b)=preB a b:=by
 unfold preB;rw [Bool.eq_iff_iff,beq_iff_eq,List.isPrefixOf_iff_prefix];constructor
 ·intro e; rw [← e]; exact List.take_prefix _ _
 ·intro e; exact (List.prefix_iff_eq_take.1 e).symm
theorem UB {a b:List UInt8} (h:a.length<b.length):preB a b=false:=by
 unfold preB;rw [Bool.eq_false_iff];intro e;have:=(List.isPrefixOf_iff_prefix.1 e).length_le;omega
theorem UC (a b:List UInt8):aA E 240 [.str a,.str b] (· = .bool (preB a b)):=by
 refine eP Tryz.func240 ?_;refine aw (fun h=>?_) (fun h=>?_)
 ·simp at h;refine gO Tryz.func240 ?_;refine bQ ⟨by simp,by simp,by simp; omega⟩ ?_;refine gO Tryz.func240 ?_;simp;exact UA
 ·simp at h;refine gO Tryz.func240 ?_;rw [UB h]
theorem Mg (a b:List UInt8):aA E 205 [.str a,.str b] (· = .bool (preB a b)):=by
 refine eP Tryz.func205 ?_
 with_reducible refine ar (UC _ _) ?_
 refine gO Tryz.func205 ?_
 with_reducible rfl
theorem Mh (a:List UInt8):preB a [42]=Nm.gJ a:=by
 cases a with
 |nil=>rfl
 |cons c a =>
  show ((42:UInt8)==c&&List.isPrefixOf [] a)=(c==42);simp only [List.isPrefixOf,Bool.and_true];exact BEq.comm
theorem Cu (a:List UInt8):aA E 167 [.str a] (· = .bool (Nm.gJ a)):=by
 refine eP Tryz.func167 ?_
 with_reducible refine ar (Mg _ _) ?_
 refine gO Tryz.func167 ?_;exact congrArg _ (Mh a)
def oF (c:UInt8):Bool:=(decide (97≤(c.toNat:Int))&&decide ((c.toNat:Int)≤122))||(decide (48≤(c.toNat:Int))&&decide ((c.toNat:Int)≤57))||((c.toNat:Int)==32)
def eH (t:List UInt8):Bool:=decide (1≤(t.length:Int))&&decide ((t.length:Int)≤40) && !(t.head?.any fun c=>(c.toNat:Int)==32) && !(t.getLast?.any fun c=>(c.toNat:Int)==32)&&t.all oF
theorem Mi {t:List UInt8} (h1:1≤t.length) (h2:t.length≤40) {c0 c1:UInt8} (h3:t[0]? = some c0) (h4:t[t.length - 1]? = some c1) (h5:((c0.toNat:Int)==32)=false) (h6:((c1.toNat:Int)==32)=false):eH t=t.all oF:=by
 have e1:t.head? = some c0:=by rw [← h3]; exact List.head?_eq_getElem?
 have e2:t.getLast? = some c1:=by rw [← h4,List.getLast?_eq_getElem?]
 have e3:decide (1≤(t.length:Int))=true:=by simp; omega
 have e4:decide ((t.length:Int)≤40)=true:=by simp; omega
 simp only [eH,e1,e2,e3,e4,Option.any_some,h5,h6,Bool.not_false,Bool.and_self,Bool.true_and]
theorem okF {a b:Bool} {x y:Int} (h1:(!a)=true) (h2:(!b)=true) (h3:(x != y)=true):(a||b||(x==y))=false:=by
 cases a <;> cases b <;> simp_all
theorem UD {a b d:Bool} (h:(!a)=false):(a||b||d)=true:=by cases a <;> simp_all
theorem UE {a b d:Bool} (h:(!b)=false):(a||b||d)=true:=by cases b <;> simp_all
theorem UF {a b:Bool} {x y:Int} (h:(x != y)=false):(a||b||(x==y))=true:=by simp_all
theorem Mj (t:List UInt8):aA E 217 [.str t] (· = .bool (eH t)):=by
 refine eP Tryz.func217 ?_
 with_reducible refine ar (zI _ _ _) ?_
 refine gO Tryz.func217 ?_;refine aw (fun h1=>?_) (fun h1=>?_)
 ·refine gO Tryz.func217 ?_;refine bq ?_;refine gO Tryz.func217 ?_;refine bq ?_;refine gO Tryz.func217 ?_;have:(decide (1≤(t.length:Int))&&decide ((t.length:Int)≤40))=false:=by rw [Bool.not_eq_true'] at h1; exact h1
  simp only [eH,this,Bool.false_and]
 ·have hb:1≤t.length∧t.length≤40:=by simp at h1; omega
  obtain ⟨c0,qY⟩:=aY (l:=t) (k:=0) (by omega);obtain ⟨c1,jI⟩:=aY (l:=t) (k:=t.length - 1) (by omega);have hw:(IntKind.i64.wrap (t.length - 1))=((t.length - 1:Nat):Int):=by rw [wrap64 (by omega) (by omega)]; omega
  refine gO Tryz.func217 ?_;refine tQ c0 (by decide) qY ?_;refine gO Tryz.func217 ?_;refine aw (fun h2=>?_) (fun h2=>?_)
  ·refine gO Tryz.func217 ?_;refine bq ?_;refine gO Tryz.func217 ?_;have e1:t.head? = some c0:=by rw [← qY]; exact List.head?_eq_getElem?
   simp only [eH,e1,Option.any_some,h2,Bool.not_true,Bool.and_false,Bool.false_and]
  ·refine gO Tryz.func217 ?_;rw [hw];refine tQ c1 (by omega) (by rw [Int.toNat_natCast]; exact jI) ?_;refine gO Tryz.func217 ?_;refine aw (fun h3=>?_) (fun h3=>?_)
   ·refine gO Tryz.func217 ?_;have e2:t.getLast? = some c1:=by rw [← jI,List.getLast?_eq_getElem?]
    simp only [eH,e2,Option.any_some,h3,Bool.not_true,Bool.and_false,Bool.false_and]
   ·rw [Mi hb.1 hb.2 qY jI h2 h3];refine gO Tryz.func217 ?_;refine aa.loop (κ:=Nat) ([3,4,2]++rg 24 19) (fun k=>[(24,.d (.int .i64 k))]) (fun _=>[]) (fun k=>k≤t.length∧∀ j c,j<k→t[j]? = some c→oF c=true) (fun k=>t.length - k) 0 ⟨Nat.zero_le _,fun j c h=>by omega⟩ ?_ ?_
    ·exact sZ
    ·intro k hk IH;have no:∀ c,t[k]? = some c→oF c=false→t.all oF=false:=fun c hc h=>by
      rw [Bool.eq_false_iff];intro aT;have:=List.all_eq_true.1 aT c (List.mem_of_getElem? hc);rw [h] at this;cases this
     refine aa.head aj Tryz.func217 2000 ?_;(conv=>whnf);refine aw (fun h4=>?_) (fun h4=>?_)
     ·simp at h4;obtain ⟨c,hc⟩:=aY h4;have next:oF c=true→∀ j c',j<k+1→t[j]? = some c'→oF c'=true:=fun ho j c' hj rW=>by
       rcases Nat.lt_or_ge j k with h | h
       ·exact hk.2 j c' h rW
       ·obtain rfl:j=k:=by omega
        rw [hc] at rW; cases rW; exact ho
      refine gO Tryz.func217 ?_;refine tQ c (by omega) (by rw [Int.toNat_natCast]; exact hc) ?_;refine gO Tryz.func217 ?_
      with_reducible refine ar (Mc _ _ _) ?_
      refine gO Tryz.func217 ?_;refine aw (fun h5=>?_) (fun h5=>?_)
      ·refine gO Tryz.func217 ?_
       with_reducible refine ar (Mc _ _ _) ?_
       refine gO Tryz.func217 ?_;refine aw (fun h6=>?_) (fun h6=>?_)
       ·refine gO Tryz.func217 ?_;refine aw (fun h7=>?_) (fun h7=>?_)
        ·refine gO Tryz.func217 ?_;rw [no c hc (okF h5 h6 h7)]
        ·refine gO Tryz.func217 ?_;refine aa.back (IH (k+1) ⟨by omega,next (UF h7)⟩ (by omega)) ?_;exact sZ
       ·refine gO Tryz.func217 ?_;refine ba ?_;refine gO Tryz.func217 ?_;refine aa.back (IH (k+1) ⟨by omega,next (UE h6)⟩ (by omega)) ?_;exact sZ
      ·refine gO Tryz.func217 ?_;refine ba ?_;refine gO Tryz.func217 ?_;refine ba ?_;refine gO Tryz.func217 ?_;refine aa.back (IH (k+1) ⟨by omega,next (UD h5)⟩ (by omega)) ?_;exact sZ
     ·simp at h4;refine gO Tryz.func217 ?_;have:t.all oF=true:=by
       rw [List.all_eq_true];intro c hc;obtain ⟨j,hj⟩:=List.getElem?_of_mem hc;exact hk.2 j c (by have:=aZ hj; omega) hj
      rw [this]
end Go.Proofs.YtcmnpelmmekdkaaGreatDoor.P
end
section
namespace Go.Proofs.YtcmnpelmmekdkaaGreatDoor.P
open Go Go.ax
set_option maxRecDepth 100000
structure pC where
 text:Int
 Mk:Int
 Ml:Int
 Mm:Int
 Mn:Int
 even:Bool
 single:Bool
 gJ:Bool
@[reducible] def pC.enc (r : pC) : DV := .agg [.int .i64 r.text, .int .i64 r.Mk, .int .i64 r.Ml, .int .i64 r.Mm, .int .i64 r.Mn, .bool r.even, .bool r.single, .bool r.gJ]
def fA:Nat→pC
 | 1=>⟨0,1,1000000,0,0,false,false,true⟩
 | 2=>⟨1,0,0,0,0,false,false,false⟩
 | 3=>⟨1,0,0,0,0,false,true,false⟩
 | 4=>⟨0,0,65535,0,100000,false,true,false⟩
 | 5=>⟨3,0,0,0,0,false,false,true⟩
 | 6=>⟨0,1,1000000,1,3,false,false,false⟩
 | 7=>⟨0,1,1000000,1,3,false,false,false⟩
 | 8=>⟨2,2,510,0,0,true,false,true⟩
 |_=>⟨0,0,0,0,0,false,false,false⟩
def lZ (r:pC) (t:Text):Bool:=if r.text=1 then Nm.valid t && !Nm.gJ t else if r.text=2 then Nm.valid t else if r.text=3 then eH t else t==[]
def jv (r:pC) (d:Datum):Bool :=
 (decide (r.Mk≤d.n)&&decide (d.n≤r.Ml))&&(decide (r.Mm≤d.m)&&decide (d.m≤r.Mn)) && !(r.even&&(d.n.tmod 2 != 0))&&lZ r d.text
theorem UG (r:pC) (d:Datum) (hd:d.text.length≤maxLen):aA E 168 [r.enc,d.enc] (· = .bool (jv r d)):=by
 obtain ⟨rt,r1,r2,r3,r4,re,rs,rw⟩:=r;refine eP Tryz.func168 ?_;repeat' (first | with_reducible refine ar (zI _ _ _) ?_ | with_reducible refine bg (zI _ _ _) ?_ | with_reducible refine ar (lk _ hd) ?_ | with_reducible refine bg (lk _ hd) ?_ | with_reducible refine ar (Cu _) ?_ | with_reducible refine bg (Cu _) ?_ | with_reducible refine ar (Mj _) ?_ | with_reducible refine bg (Mj _) ?_ | with_reducible refine cY ?_ | with_reducible refine cN ?_ | with_reducible refine aw (fun _=>?_) (fun _=>?_) | refine gA Tryz.func168 ?_ | refine gB ?_ | refine gC ?_ | with_reducible rfl)
 all_goals simp_all [jv,lZ]
 all_goals (intros; exfalso; omega)
theorem UH {k:Nat} (h1:1≤k) (h8:k≤8):∃ cs,Cr = .agg cs∧(cs.drop (k*8)).take 8=(fA k).enc.cells:=by
 refine ⟨_,rfl,?_⟩
 match k,h1,h8 with
 | 1,_,_=>rfl
 | 2,_,_=>rfl
 | 3,_,_=>rfl
 | 4,_,_=>rfl
 | 5,_,_=>rfl
 | 6,_,_=>rfl
 | 7,_,_=>rfl
 | 8,_,_=>rfl
structure eu.Fits (s:eu):Prop where
 name:s.name.length≤maxLen
 data:s.data.length≤2147483648
 texts:∀ d∈s.data,d.text.length≤maxLen
def l4 (r:pC):Option Datum→List Datum→Bool
 |_,[]=>true
 |p,d::l=>jv r d&&(match p with | none=>true | some e=>decide (qX e d<0))&&l4 r (some d) l
def lp (l:List Datum) (k:Nat):Option Datum:=if k=0 then none else l[k - 1]?
theorem Mo {r:pC} {l:List Datum} {k:Nat} {d:Datum} (hd:l[k]? = some d):l4 r (lp l k) (l.drop k)=(jv r d&&(match lp l k with | none=>true | some e=>decide (qX e d<0))&&l4 r (lp l (k+1)) (l.drop (k+1))):=by
 have hk:=aZ hd;rw [List.drop_eq_getElem_cons hk];have e1:l[k]=d:=by simpa [hk] using hd
 have e2:lp l (k+1)=some d:=by simp [lp,hd]
 rw [e1,e2];rfl
def fc (s:eu):Bool:=Nm.valid s.name&&(decide (1≤s.type)&&decide (s.type≤8))&&(decide (0≤s.gy)&&decide (s.gy≤100000))&&(decide (1≤(s.data.length:Int))&&decide ((s.data.length:Int)≤8)) &&
 !((fA s.type.toNat).single&&((s.data.length:Int) != 1)) && !(Nm.gJ s.name && !(fA s.type.toNat).gJ)&&l4 (fA s.type.toNat) none s.data
theorem Cv (s:eu) (hf:s.Fits):aA E 108 [s.enc] (· = .bool (fc s)):=by
 refine eP Tryz.func108 ?_;repeat' (first | with_reducible refine ar (lk _ hf.name) ?_ | with_reducible refine bg (lk _ hf.name) ?_ | with_reducible refine ar (zI _ _ _) ?_ | with_reducible refine bg (zI _ _ _) ?_ | with_reducible refine cY ?_ | with_reducible refine cN ?_ | with_reducible refine aw (fun _=>?_) (fun _=>?_) | refine gA Tryz.func108 ?_ | refine gB ?_ | refine gC ?_ | with_reducible rfl)
 all_goals try (simp only [Bool.not_eq_true',Bool.not_eq_false',List.length_map] at *; simp only [fc, *,Bool.false_and,Bool.and_false]; done)
 rename_i h1 h2 h3 h4;rw [List.length_map] at h4;rw [Bool.not_eq_false'] at h1 h2 h3 h4;have ht:1≤s.type∧s.type≤8:=by simpa using h2
 have hl:1≤s.data.length∧s.data.length≤8:=by simp at h4; omega
 obtain ⟨t,qk⟩:=Int.eq_ofNat_of_zero_le (a:=s.type) (by omega);obtain ⟨cs,mF,Mp⟩:=UH (k:=t) (by omega) (by omega);cases mF;refine R0 (fA t).enc (by omega) (by omega) (by decide) (by rw [qk]; exact Mp) rfl ?_;have cL:fc s=(!((fA t).single&&((s.data.length:Int) != 1)) && !(Nm.gJ s.name && !(fA t).gJ)&&l4 (fA t) none s.data):=by
  simp only [fc,h1,h2,h3,h4,Bool.true_and];rw [qk,Int.toNat_natCast]
 rw [cL];generalize fA t=r;clear cL Mp;refine gO Tryz.func108 ?_;repeat' (first | with_reducible refine ar (Cu _) ?_ | with_reducible refine bg (Cu _) ?_ | with_reducible refine cY ?_ | with_reducible refine cN ?_ | with_reducible refine aw (fun _=>?_) (fun _=>?_) | refine gA Tryz.func108 ?_ | refine gB ?_ | refine gC ?_ | with_reducible rfl)
 all_goals try (simp only [List.length_map,Bool.not_eq_true',Bool.not_eq_false'] at *; simp only [*,Bool.true_and,Bool.not_true,Bool.not_false,Bool.and_false,Bool.false_and,Bool.and_self]; done)
 all_goals
  have fy:(!(r.single&&((s.data.length:Int) != 1)) && !(Nm.gJ s.name && !r.gJ)&&l4 r none s.data)=l4 r none s.data:=by
   try simp only [List.length_map] at *
   simp only [*,Bool.not_true,Bool.not_false,Bool.and_false,Bool.false_and,Bool.and_self,Bool.true_and]
  rw [fy];clear fy;refine gO Tryz.func108 ?_;refine aa.loop (κ:=Nat) ([2,4,5]++rg 52 25) (fun k=>[(52,.d (.int .i64 k))]) (fun _=>[]) (fun k=>k≤s.data.length∧l4 r none s.data=l4 r (lp s.data k) (s.data.drop k)) (fun k=>s.data.length - k) 0 ⟨Nat.zero_le _,rfl⟩ ?_ ?_
  ·exact sZ
  ·intro k hk IH;refine aa.head aj Tryz.func108 2000 ?_;(conv=>whnf);refine aw (fun h5=>?_) (fun h5=>?_)
   ·have ai:k<s.data.length:=by simpa using h5
    obtain ⟨d,hd⟩:=aY ai;have aX:=Mo (r:=r) hd;rw [← hk.2] at aX;refine gO Tryz.func108 ?_;refine ee d.enc (by omega) (ln hd) rfl ?_;refine gO Tryz.func108 ?_;refine aa.draw aj bW 19 2000 (by kernel_rfl) ?_;conv=>whnf
    with_reducible refine bg (UG r d (hf.texts d (List.mem_of_getElem? hd))) ?_
    refine gD ?_;refine aw (fun h6=>?_) (fun h6=>?_)
    ·refine gD ?_;refine gS ?_;refine gO Tryz.func108 ?_;refine bq ?_;refine gO Tryz.func108 ?_;rw [Bool.not_eq_true'] at h6;rw [aX,h6,Bool.false_and,Bool.false_and]
    ·rw [Bool.not_eq_false'] at h6;refine gD ?_;refine aw (fun h7=>?_) (fun h7=>?_)
     ·have df:0<k:=by simpa using h7
      obtain ⟨e,he⟩:=aY (l:=s.data) (k:=k - 1) (by omega);have hw:IntKind.i64.wrap ((k:Int) - 1)=((k - 1:Nat):Int):=by rw [wrap64 (by omega) (by omega)]; omega
      have qZ:lp s.data k=some e:=by simp [lp,he]; omega
      refine gD ?_;rw [hw];refine ee e.enc (by omega) (ln he) rfl ?_;refine gD ?_
      with_reducible refine bg (Uz _ _) ?_
      refine gD ?_;refine gS ?_;refine gO Tryz.func108 ?_;refine aw (fun h8=>?_) (fun h8=>?_)
      ·refine gO Tryz.func108 ?_;have:decide (qX e d<0)=false:=by simp at h8 ⊢; omega
       rw [aX,qZ]; dsimp only; rw [this,Bool.and_false,Bool.false_and]
      ·refine gO Tryz.func108 ?_;have:decide (qX e d<0)=true:=by simp at h8 ⊢; omega
       refine aa.back (IH (k+1) ⟨by omega,by rw [aX,qZ]; dsimp only; rw [this,h6]; rfl⟩ (by omega)) ?_;exact sZ
     ·have df:k=0:=by simp at h7; omega
      have qZ:lp s.data k=none:=by simp [lp,df]
      refine gD ?_;refine gS ?_;refine gO Tryz.func108 ?_;refine ba ?_;refine gO Tryz.func108 ?_;refine aa.back (IH (k+1) ⟨by omega,by rw [aX,qZ,h6]; rfl⟩ (by omega)) ?_;exact sZ
   ·have aP:s.data.length≤k:=by simpa using h5
    refine gO Tryz.func108 ?_;rw [hk.2,List.drop_of_length_le aP];rfl
end Go.Proofs.YtcmnpelmmekdkaaGreatDoor.P
end
section
namespace Go.Proofs.YtcmnpelmmekdkaaGreatDoor.P
open Go Go.ax
set_option maxRecDepth 100000
theorem fF {l:Text} (h:Nm.valid l=true):l.length≤60:=by
 simp only [Nm.valid,Bool.or_eq_true,decide_eq_true_eq,Bool.and_eq_true] at h;rcases h with rfl | h
 ·simp
 ·exact h.1
theorem UI {r:pC} {t:Text} (h:lZ r t=true):t.length≤60:=by
 unfold lZ at h;split at h
 ·simp at h; exact fF h.1
 ·split at h
  ·exact fF h
  ·split at h
   ·simp [eH] at h; omega
   ·simp at h; simp [h]
theorem Cw {r:pC}:∀ {p:Option Datum} {l:List Datum},l4 r p l=true→∀ d∈l,jv r d=true
 |_,[],_,d,hd=>by simp at hd
 |p,e::l,h,d,hd=>by
  simp only [l4,Bool.and_eq_true] at h;rcases List.mem_cons.1 hd with rfl | hd
  ·exact h.1.1
  ·exact Cw h.2 d hd
theorem wZ {s:eu} (h:fc s=true):s.name.length≤60∧s.data.length≤8∧1≤s.data.length∧∀ d∈s.data,d.text.length≤60:=by
 simp only [fc,Bool.and_eq_true,decide_eq_true_eq] at h;obtain ⟨⟨⟨⟨⟨⟨h1,h2⟩,h3⟩,h4⟩,h5⟩,h6⟩,h7⟩:=h;refine ⟨fF h1,by omega,by omega,fun d hd=>?_⟩;have:=Cw h7 d hd;simp only [jv,Bool.and_eq_true] at this;exact UI this.2
theorem eI {α:Type} {l:List α} {k:Nat} {x:α} (h:l[k]? = some x):l.take (k+1)=l.take k++[x]:=by
 rw [List.take_add_one,h]; rfl
end Go.Proofs.YtcmnpelmmekdkaaGreatDoor.P
end
section
namespace Go.Proofs.YtcmnpelmmekdkaaGreatDoor.P
open Go Go.ax
set_option maxRecDepth 100000
theorem zK (t z:Text) (ht:t.length≤maxLen) (hz:z.length≤maxLen):aA E 91 [.str t,.str z] (· = .aL [.bool (Nm.mL t z),.int .i64 (if Nm.valid t&&Nm.valid z then 0 else 11)]) :=
 Gy (g:=fun t z => .aL [.bool (Nm.mL t z),.int .i64 (if Nm.valid t&&Nm.valid z then 0 else 11)]) t z ⟨_,Tryz.func91,rfl,by decide⟩ fun w=>(Uv ⟨t.toArray⟩ ⟨z.toArray⟩ w (size_mk ht) (size_mk hz)).mono fun e w' ⟨h1,h2⟩=>⟨_,h1,fun _ _=>by
  simp only [jS]
  exact .aL _ _ rfl (fun j x v hx hv=>by
   match j with
   | 0=>simp at hx hv; subst hx; subst hv; exact .bool _
   | 1=>simp at hx hv; subst hx; subst hv; exact .int _ _
   |j+2=>simp at hx),h2⟩
def UJ (k:Key):Bool:=decide (k.n≥1)&&decide (k.n≤1000000)&&decide (k.nE≥1)&&decide (k.nE≤3)
def UK (a b:Int):Bool:=decide (a≥0)&&decide (a≤b)&&decide (b≤20000000)
def UL (s:eu) (ay:Text) (k:Key) (oD upto:Int):Bool:=UJ k&&UK oD upto&&Nm.valid ay && !Nm.gJ ay&&fc s&&Nm.mL s.name ay
def Cy:gW:=⟨[],0,0,0,0,0⟩
def Cz (a b:gW):Bool:=(a.ay==b.ay&&(a.key==b.key&&(a.nE==b.nE&&(a.oD==b.oD&&(a.upto==b.upto&&(a.sum==b.sum&&true))))))
theorem Mq {a b:gW}:Cz a b=true↔a=b:=by
 obtain ⟨a1,a2,a3,a4,a5,a6⟩:=a;obtain ⟨b1,b2,b3,b4,b5,b6⟩:=b;simp [Cz]
end Go.Proofs.YtcmnpelmmekdkaaGreatDoor.P
end

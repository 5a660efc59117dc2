/- Lemmas of mine. Conditions: as stated. -/
import Derived.Test.YtlhehdgciafakaaGreatDoorQ3
set_option linter.unusedVariables false
set_option linter.unusedSimpArgs false
section
namespace Go.Proofs.YtlhehdgciafakaaGreatDoor
open Go Go.az
def DZ:DV := .agg [.int .i64 0,.int .i64 0,.int .i64 0,.int .i64 0,.int .i64 0,.bool false,.bool false,.bool false,.int .i64 0,.int .i64 1,.int .i64 1000000,.int .i64 0,.int .i64 0,.bool false,.bool false,.bool true,.int .i64 1,.int .i64 0,.int .i64 0,.int .i64 0,.int .i64 0,.bool false,.bool false,.bool false,.int .i64 1,.int .i64 0,.int .i64 0,.int .i64 0,.int .i64 0,.bool false,.bool true,.bool false,.int .i64 0,.int .i64 0,.int .i64 65535,.int .i64 0,.int .i64 100000,.bool false,.bool true,.bool false,.int .i64 3,.int .i64 0,.int .i64 0,.int .i64 0,.int .i64 0,.bool false,.bool false,.bool true,.int .i64 0,.int .i64 1,.int .i64 1000000,.int .i64 1,.int .i64 3,.bool false,.bool false,.bool false,.int .i64 0,.int .i64 1,.int .i64 1000000,.int .i64 1,.int .i64 3,.bool false,.bool false,.bool false,.int .i64 2,.int .i64 2,.int .i64 510,.int .i64 0,.int .i64 0,.bool true,.bool false,.bool true]
abbrev qFz:bA:=⟨.func,1,8,[.aB]⟩
def types:List bA:=[
 ⟨.other,1,0,[]⟩,
 qFz,
 ⟨.int .i64,1,8,[.int .i64 0]⟩,
 ⟨.int .i64,1,8,[.int .i64 0]⟩,
 ⟨.bool,1,1,[.bool false]⟩,
 ⟨.int .u8,1,1,[.int .u8 0]⟩,
 ⟨.int .u8,1,1,[.int .u8 0]⟩,
 ⟨.struct [(0,2),(1,3),(2,4),(3,6)],4,24,[.int .i64 0,.int .i64 0,.bool false,.int .u8 0]⟩,
 ⟨.struct [(0,2),(1,3),(2,4),(3,6)],4,24,[.int .i64 0,.int .i64 0,.bool false,.int .u8 0]⟩,
 ⟨.string,1,16,[.str []]⟩,
 ⟨.string,1,16,[.str []]⟩,
 ⟨.string,1,16,[.str []]⟩,
 ⟨.int .u64,1,8,[.int .u64 0]⟩,
 ⟨.struct [(0,9),(1,12)],2,24,[.str [],.int .u64 0]⟩,
 ⟨.struct [(0,9),(1,12)],2,24,[.str [],.int .u64 0]⟩,
 ⟨.pointer 375,1,8,[.eS]⟩,
 ⟨.pointer 378,1,8,[.eS]⟩,
 ⟨.pointer 385,1,8,[.eS]⟩,
 ⟨.struct [(0,17)],1,8,[.eS]⟩,
 ⟨.struct [(0,17)],1,8,[.eS]⟩,
 ⟨.iface,1,16,[.fD]⟩,
 ⟨.int .i32,1,4,[.int .i32 0]⟩,
 ⟨.slice 74,1,24,[.aF]⟩,
 ⟨.slice 72,1,24,[.aF]⟩,
 ⟨.slice 109,1,24,[.aF]⟩,
 ⟨.struct [(0,9),(1,3),(2,3),(3,24)],4,56,[.str [],.int .i64 0,.int .i64 0,.aF]⟩,
 ⟨.struct [(0,9),(1,3),(2,3),(3,24)],4,56,[.str [],.int .i64 0,.int .i64 0,.aF]⟩,
 ⟨.slice 3,1,24,[.aF]⟩,
 ⟨.struct [(0,22),(1,23),(2,26),(6,27),(7,3),(8,3)],9,144,[.aF,.aF,.str [],.int .i64 0,.int .i64 0,.aF,.aF,.int .i64 0,.int .i64 0]⟩,
 ⟨.struct [(0,22),(1,23),(2,26),(6,27),(7,3),(8,3)],9,144,[.aF,.aF,.str [],.int .i64 0,.int .i64 0,.aF,.aF,.int .i64 0,.int .i64 0]⟩,
 ⟨.slice 82,1,24,[.aF]⟩,
 ⟨.slice 59,1,24,[.aF]⟩,
 ⟨.slice 69,1,24,[.aF]⟩,
 ⟨.struct [(0,29),(9,30),(10,31),(11,32)],12,216,[.aF,.aF,.str [],.int .i64 0,.int .i64 0,.aF,.aF,.int .i64 0,.int .i64 0,.aF,.aF,.aF]⟩,
 ⟨.struct [(0,29),(9,30),(10,31),(11,32)],12,216,[.aF,.aF,.str [],.int .i64 0,.int .i64 0,.aF,.aF,.int .i64 0,.int .i64 0,.aF,.aF,.aF]⟩,
 ⟨.struct [(0,9),(1,3)],2,24,[.str [],.int .i64 0]⟩,
 ⟨.struct [(0,9),(1,3)],2,24,[.str [],.int .i64 0]⟩,
 ⟨.slice 77,1,24,[.aF]⟩,
 ⟨.struct [(0,3),(1,37),(2,9)],3,48,[.int .i64 0,.aF,.str []]⟩,
 ⟨.struct [(0,3),(1,37),(2,9)],3,48,[.int .i64 0,.aF,.str []]⟩,
 ⟨.struct [(0,3),(1,3),(2,36),(4,39)],7,88,[.int .i64 0,.int .i64 0,.str [],.int .i64 0,.int .i64 0,.aF,.str []]⟩,
 ⟨.struct [(0,3),(1,3),(2,36),(4,39)],7,88,[.int .i64 0,.int .i64 0,.str [],.int .i64 0,.int .i64 0,.aF,.str []]⟩,
 qFz,
 qFz,
 qFz,
 qFz,
 ⟨.int .i64,1,8,[.int .i64 0]⟩,
 ⟨.other,1,0,[]⟩,
 qFz,
 ⟨.other,1,0,[]⟩,
 qFz,
 qFz,
 qFz,
 ⟨.other,1,0,[]⟩,
 qFz,
 qFz,
 ⟨.struct [(0,9),(1,37)],2,40,[.str [],.aF]⟩,
 ⟨.struct [(0,9),(1,37)],2,40,[.str [],.aF]⟩,
 ⟨.struct [(0,3),(1,3),(2,57)],4,56,[.int .i64 0,.int .i64 0,.str [],.aF]⟩,
 ⟨.struct [(0,3),(1,3),(2,57)],4,56,[.int .i64 0,.int .i64 0,.str [],.aF]⟩,
 qFz,
 qFz,
 ⟨.slice 200,1,24,[.aF]⟩,
 ⟨.struct [(0,62)],1,24,[.aF]⟩,
 ⟨.struct [(0,62)],1,24,[.aF]⟩,
 ⟨.slice 41,1,24,[.aF]⟩,
 ⟨.struct [(0,3),(1,36),(3,37)],4,56,[.int .i64 0,.str [],.int .i64 0,.aF]⟩,
 ⟨.struct [(0,3),(1,36),(3,37)],4,56,[.int .i64 0,.str [],.int .i64 0,.aF]⟩,
 ⟨.struct [(0,36),(2,3),(3,64),(4,65),(5,67)],9,136,[.str [],.int .i64 0,.int .i64 0,.aF,.aF,.int .i64 0,.str [],.int .i64 0,.aF]⟩,
 ⟨.struct [(0,36),(2,3),(3,64),(4,65),(5,67)],9,136,[.str [],.int .i64 0,.int .i64 0,.aF,.aF,.int .i64 0,.str [],.int .i64 0,.aF]⟩,
 qFz,
 ⟨.struct [(0,3),(1,3),(2,3),(3,57)],5,64,[.int .i64 0,.int .i64 0,.int .i64 0,.str [],.aF]⟩,
 ⟨.struct [(0,3),(1,3),(2,3),(3,57)],5,64,[.int .i64 0,.int .i64 0,.int .i64 0,.str [],.aF]⟩,
 ⟨.struct [(0,9),(1,3),(2,3)],3,32,[.str [],.int .i64 0,.int .i64 0]⟩,
 ⟨.struct [(0,9),(1,3),(2,3)],3,32,[.str [],.int .i64 0,.int .i64 0]⟩,
 ⟨.slice 172,1,24,[.aF]⟩,
 ⟨.struct [(0,26),(4,75)],5,80,[.str [],.int .i64 0,.int .i64 0,.aF,.aF]⟩,
 ⟨.struct [(0,26),(4,75)],5,80,[.str [],.int .i64 0,.int .i64 0,.aF,.aF]⟩,
 ⟨.slice 85,1,24,[.aF]⟩,
 ⟨.struct [(0,78)],1,24,[.aF]⟩,
 ⟨.struct [(0,78)],1,24,[.aF]⟩,
 ⟨.struct [(0,3),(1,80)],2,32,[.int .i64 0,.aF]⟩,
 ⟨.struct [(0,3),(1,80)],2,32,[.int .i64 0,.aF]⟩,
 ⟨.pointer 80,1,8,[.eS]⟩,
 ⟨.struct [(0,3),(1,57)],3,48,[.int .i64 0,.str [],.aF]⟩,
 ⟨.struct [(0,3),(1,57)],3,48,[.int .i64 0,.str [],.aF]⟩,
 qFz,
 qFz,
 qFz,
 qFz,
 qFz,
 qFz,
 qFz,
 qFz,
 ⟨.struct [(0,22),(1,78),(2,26),(6,27)],7,128,[.aF,.aF,.str [],.int .i64 0,.int .i64 0,.aF,.aF]⟩,
 ⟨.struct [(0,22),(1,78),(2,26),(6,27)],7,128,[.aF,.aF,.str [],.int .i64 0,.int .i64 0,.aF,.aF]⟩,
 ⟨.other,1,0,[]⟩,
 qFz,
 qFz,
 qFz,
 qFz,
 qFz,
 qFz,
 qFz,
 qFz,
 ⟨.slice 5,1,24,[.aF]⟩,
 ⟨.other,1,0,[]⟩,
 qFz,
 ⟨.struct [(0,9),(1,3),(2,3)],3,32,[.str [],.int .i64 0,.int .i64 0]⟩,
 ⟨.struct [(0,9),(1,3),(2,3)],3,32,[.str [],.int .i64 0,.int .i64 0]⟩,
 qFz,
 qFz,
 qFz,
 qFz,
 qFz,
 qFz,
 qFz,
 qFz,
 ⟨.map 204 4,1,8,[.kH]⟩,
 qFz,
 qFz,
 qFz,
 qFz,
 qFz,
 qFz,
 qFz,
 qFz,
 qFz,
 ⟨.slice 9,1,24,[.aF]⟩,
 qFz,
 qFz,
 qFz,
 ⟨.map 134 135,1,8,[.kH]⟩,
 ⟨.struct [(0,3),(1,9)],2,24,[.int .i64 0,.str []]⟩,
 ⟨.struct [(0,3),(1,9)],2,24,[.int .i64 0,.str []]⟩,
 ⟨.slice 137,1,24,[.aF]⟩,
 ⟨.struct [(0,3),(1,3)],2,16,[.int .i64 0,.int .i64 0]⟩,
 ⟨.struct [(0,3),(1,3)],2,16,[.int .i64 0,.int .i64 0]⟩,
 qFz,
 qFz,
 qFz,
 qFz,
 qFz,
 ⟨.struct [(0,3),(1,3),(2,3),(3,3),(4,36),(6,39)],9,104,[.int .i64 0,.int .i64 0,.int .i64 0,.int .i64 0,.str [],.int .i64 0,.int .i64 0,.aF,.str []]⟩,
 ⟨.struct [(0,3),(1,3),(2,3),(3,3),(4,36),(6,39)],9,104,[.int .i64 0,.int .i64 0,.int .i64 0,.int .i64 0,.str [],.int .i64 0,.int .i64 0,.aF,.str []]⟩,
 qFz,
 ⟨.map 3 4,1,8,[.kH]⟩,
 qFz,
 ⟨.other,1,0,[]⟩,
 qFz,
 qFz,
 qFz,
 qFz,
 qFz,
 qFz,
 qFz,
 qFz,
 ⟨.slice 57,1,24,[.aF]⟩,
 qFz,
 qFz,
 qFz,
 qFz,
 qFz,
 qFz,
 qFz,
 qFz,
 qFz,
 qFz,
 qFz,
 qFz,
 ⟨.int .u64,1,8,[.int .u64 0]⟩,
 ⟨.struct [(0,9),(1,3),(2,3),(3,3),(4,3),(5,170)],6,56,[.str [],.int .i64 0,.int .i64 0,.int .i64 0,.int .i64 0,.int .u64 0]⟩,
 ⟨.struct [(0,9),(1,3),(2,3),(3,3),(4,3),(5,170)],6,56,[.str [],.int .i64 0,.int .i64 0,.int .i64 0,.int .i64 0,.int .u64 0]⟩,
 qFz,
 qFz,
 qFz,
 qFz,
 qFz,
 qFz,
 qFz,
 ⟨.map 182 4,1,8,[.kH]⟩,
 ⟨.struct [(0,3),(1,3),(2,9)],3,32,[.int .i64 0,.int .i64 0,.str []]⟩,
 ⟨.struct [(0,3),(1,3),(2,9)],3,32,[.int .i64 0,.int .i64 0,.str []]⟩,
 qFz,
 ⟨.pointer 190,1,8,[.eS]⟩,
 ⟨.int .i8,1,1,[.int .i8 0]⟩,
 ⟨.int .i8,1,1,[.int .i8 0]⟩,
 ⟨.struct [(0,105),(1,3),(2,186)],3,40,[.aF,.int .i64 0,.int .i8 0]⟩,
 ⟨.struct [(0,105),(1,3),(2,186)],3,40,[.aF,.int .i64 0,.int .i8 0]⟩,
 ⟨.struct [(0,188)],3,40,[.aF,.int .i64 0,.int .i8 0]⟩,
 ⟨.struct [(0,188)],3,40,[.aF,.int .i64 0,.int .i8 0]⟩,
 qFz,
 qFz,
 qFz,
 qFz,
 qFz,
 qFz,
 qFz,
 qFz,
 ⟨.struct [(0,77),(5,9),(6,3)],7,104,[.str [],.int .i64 0,.int .i64 0,.aF,.aF,.str [],.int .i64 0]⟩,
 ⟨.struct [(0,77),(5,9),(6,3)],7,104,[.str [],.int .i64 0,.int .i64 0,.aF,.aF,.str [],.int .i64 0]⟩,
 qFz,
 qFz,
 ⟨.struct [(0,3),(1,9)],2,24,[.int .i64 0,.str []]⟩,
 ⟨.struct [(0,3),(1,9)],2,24,[.int .i64 0,.str []]⟩,
 ⟨.map 9 4,1,8,[.kH]⟩,
 qFz,
 qFz,
 qFz,
 ⟨.struct [(0,57)],2,40,[.str [],.aF]⟩,
 ⟨.struct [(0,57)],2,40,[.str [],.aF]⟩,
 ⟨.struct [(0,210),(2,128)],3,64,[.str [],.aF,.aF]⟩,
 ⟨.struct [(0,210),(2,128)],3,64,[.str [],.aF,.aF]⟩,
 qFz,
 qFz,
 qFz,
 ⟨.int .u64,1,8,[.int .u64 0]⟩,
 qFz,
 ⟨.string,1,16,[.str []]⟩,
 qFz,
 qFz,
 qFz,
 qFz,
 ⟨.other,1,0,[]⟩,
 qFz,
 ⟨.other,1,0,[]⟩,
 qFz,
 ⟨.pointer 231,1,8,[.eS]⟩,
 qFz,
 ⟨.map 36 3,1,8,[.kH]⟩,
 ⟨.struct [(0,9),(1,37),(2,229),(3,36),(5,9),(6,4),(7,9)],8,112,[.str [],.aF,.kH,.str [],.int .i64 0,.str [],.bool false,.str []]⟩,
 ⟨.struct [(0,9),(1,37),(2,229),(3,36),(5,9),(6,4),(7,9)],8,112,[.str [],.aF,.kH,.str [],.int .i64 0,.str [],.bool false,.str []]⟩,
 qFz,
 ⟨.slice 232,1,24,[.aF]⟩,
 ⟨.other,1,0,[]⟩,
 qFz,
 qFz,
 qFz,
 qFz,
 qFz,
 qFz,
 qFz,
 qFz,
 qFz,
 qFz,
 qFz,
 qFz,
 qFz,
 ⟨.iface,1,16,[.fD]⟩,
 ⟨.iface,1,16,[.fD]⟩,
 qFz,
 ⟨.int .u64,1,8,[.int .u64 0]⟩,
 qFz,
 ⟨.pointer 188,1,8,[.eS]⟩,
 qFz,
 qFz,
 ⟨.map 258 4,1,8,[.kH]⟩,
 ⟨.struct [(0,3),(1,9)],2,24,[.int .i64 0,.str []]⟩,
 ⟨.struct [(0,3),(1,9)],2,24,[.int .i64 0,.str []]⟩,
 qFz,
 qFz,
 ⟨.other,1,0,[]⟩,
 qFz,
 qFz,
 qFz,
 qFz,
 ⟨.int .i64,1,8,[.int .i64 0]⟩,
 ⟨.other,1,0,[]⟩,
 qFz,
 qFz,
 qFz,
 qFz,
 qFz,
 ⟨.int .u32,1,4,[.int .u32 0]⟩,
 qFz,
 qFz,
 qFz,
 qFz,
 qFz,
 qFz,
 qFz,
 qFz,
 qFz,
 qFz,
 ⟨.other,1,0,[]⟩,
 qFz,
 qFz,
 qFz,
 qFz,
 qFz,
 qFz,
 qFz,
 qFz,
 qFz,
 qFz,
 ⟨.slice 4,1,24,[.aF]⟩,
 qFz,
 qFz,
 qFz,
 ⟨.map 301 4,1,8,[.kH]⟩,
 ⟨.struct [(0,9),(1,3),(2,9)],3,40,[.str [],.int .i64 0,.str []]⟩,
 ⟨.struct [(0,9),(1,3),(2,9)],3,40,[.str [],.int .i64 0,.str []]⟩,
 qFz,
 qFz,
 qFz,
 ⟨.other,1,0,[]⟩,
 qFz,
 ⟨.array 4 3,4,32,[.int .i64 0,.int .i64 0,.int .i64 0,.int .i64 0]⟩,
 qFz,
 qFz,
 qFz,
 ⟨.pointer 251,1,8,[.eS]⟩,
 ⟨.struct [(0,3),(1,3),(2,3),(3,3),(4,3),(5,4),(6,4),(7,4)],8,48,[.int .i64 0,.int .i64 0,.int .i64 0,.int .i64 0,.int .i64 0,.bool false,.bool false,.bool false]⟩,
 ⟨.struct [(0,3),(1,3),(2,3),(3,3),(4,3),(5,4),(6,4),(7,4)],8,48,[.int .i64 0,.int .i64 0,.int .i64 0,.int .i64 0,.int .i64 0,.bool false,.bool false,.bool false]⟩,
 ⟨.array 9 313,72,432,[.int .i64 0,.int .i64 0,.int .i64 0,.int .i64 0,.int .i64 0,.bool false,.bool false,.bool false,.int .i64 0,.int .i64 0,.int .i64 0,.int .i64 0,.int .i64 0,.bool false,.bool false,.bool false,.int .i64 0,.int .i64 0,.int .i64 0,.int .i64 0,.int .i64 0,.bool false,.bool false,.bool false,.int .i64 0,.int .i64 0,.int .i64 0,.int .i64 0,.int .i64 0,.bool false,.bool false,.bool false,.int .i64 0,.int .i64 0,.int .i64 0,.int .i64 0,.int .i64 0,.bool false,.bool false,.bool false,.int .i64 0,.int .i64 0,.int .i64 0,.int .i64 0,.int .i64 0,.bool false,.bool false,.bool false,.int .i64 0,.int .i64 0,.int .i64 0,.int .i64 0,.int .i64 0,.bool false,.bool false,.bool false,.int .i64 0,.int .i64 0,.int .i64 0,.int .i64 0,.int .i64 0,.bool false,.bool false,.bool false,.int .i64 0,.int .i64 0,.int .i64 0,.int .i64 0,.int .i64 0,.bool false,.bool false,.bool false]⟩,
 qFz,
 qFz,
 qFz,
 ⟨.other,1,0,[]⟩,
 qFz,
 qFz,
 qFz,
 ⟨.int .u64,1,8,[.int .u64 0]⟩,
 qFz,
 qFz,
 qFz,
 ⟨.pointer 3,1,8,[.eS]⟩,
 qFz,
 qFz,
 qFz,
 qFz,
 qFz,
 qFz,
 qFz,
 qFz,
 qFz,
 qFz,
 qFz,
 qFz,
 qFz,
 qFz,
 qFz,
 qFz,
 qFz,
 qFz,
 qFz,
 qFz,
 ⟨.other,1,0,[]⟩,
 qFz,
 qFz,
 qFz,
 qFz,
 qFz,
 qFz,
 ⟨.pointer 322,1,8,[.eS]⟩,
 ⟨.other,1,0,[]⟩,
 qFz,
 qFz,
 qFz,
 qFz,
 qFz,
 qFz,
 qFz,
 qFz,
 qFz,
 qFz,
 ⟨.pointer 368,1,8,[.eS]⟩,
 ⟨.struct [(0,366),(1,105)],2,32,[.eS,.aF]⟩,
 ⟨.struct [(0,366),(1,105)],2,32,[.eS,.aF]⟩,
 ⟨.pointer 5,1,8,[.eS]⟩,
 ⟨.other,1,8,[.eS]⟩,
 qFz,
 qFz,
 ⟨.pointer 387,1,8,[.eS]⟩,
 ⟨.struct [(0,17),(1,17),(2,17),(3,9)],4,40,[.eS,.eS,.eS,.str []]⟩,
 ⟨.struct [(0,17),(1,17),(2,17),(3,9)],4,40,[.eS,.eS,.eS,.str []]⟩,
 ⟨.array 0 16,0,0,[]⟩,
 ⟨.struct [(0,376)],0,0,[]⟩,
 ⟨.struct [(0,376)],0,0,[]⟩,
 ⟨.int .u8,1,1,[.int .u8 0]⟩,
 ⟨.int .u8,1,1,[.int .u8 0]⟩,
 qFz,
 ⟨.int .i32,1,4,[.int .i32 0]⟩,
 ⟨.int .i32,1,4,[.int .i32 0]⟩,
 ⟨.struct [(0,12),(1,12),(2,273),(3,379),(4,5),(5,5),(6,380),(7,381),(8,369),(9,382),(10,383)],11,48,[.int .u64 0,.int .u64 0,.int .u32 0,.int .u8 0,.int .u8 0,.int .u8 0,.int .u8 0,.aB,.eS,.int .i32 0,.int .i32 0]⟩,
 ⟨.struct [(0,12),(1,12),(2,273),(3,379),(4,5),(5,5),(6,380),(7,381),(8,369),(9,382),(10,383)],11,48,[.int .u64 0,.int .u64 0,.int .u32 0,.int .u8 0,.int .u8 0,.int .u8 0,.int .u8 0,.aB,.eS,.int .i32 0,.int .i32 0]⟩,
 ⟨.struct [(0,9)],1,16,[.str []]⟩,
 ⟨.struct [(0,9)],1,16,[.str []]⟩,
 qFz]
def Il:List (Nat × DV):=[(0,DZ)]
noncomputable def E:Env:=⟨Tryz.prog,types,Il,[36,74,109,134,137,172,182,204,258,301,313]⟩
theorem wV:E.P.follows .mixedOrders=true:=by kernel_rfl
theorem Wg:(List.range 389).map (fR Tryz.prog)=types.map some:=by kernel_rfl
theorem Wh:E.Q.all (CV E.P)=true:=by kernel_rfl
theorem ag:E.OK:=⟨fun t i hi=>by
 have h:=congrArg (·[t]?) Wg;simp only[List.getElem?_map]at h;have cu:types[t]?=some i:=hi;rw[cu]at h;cases hr:(List.range 389)[t]? with
 |none=>rw[hr]at h;cases h
 |some u =>
  have hu:u=t:=by
   have ai:t<389:=by
    rcases Nat.lt_or_ge t 389 with h|h
    ·exact h
    ·rw[List.getElem?_eq_none (zD h)]at hr;cases hr
   simp[ai]at hr;exact hr.symm
  subst hu;rw[hr]at h;have h2:fR Tryz.prog u=some i:=zD h
  exact h2,fun t ht=>List.all_eq_true.1 Wh t ht⟩
end Go.Proofs.YtlhehdgciafakaaGreatDoor
end
section
namespace Go.Proofs.YtlhehdgciafakaaGreatDoor.P
open Go Go.az
abbrev Text:=List UInt8
structure Datum where
 text:Text
 n:Int
 m:Int
 deriving DecidableEq
structure dw where
 name:Text
 type:Int
 dD:Int
 data:List Datum
 deriving DecidableEq
structure Key where
 n:Int
 nN:Int
 deriving DecidableEq
structure dE where
 ar:Text
 key:Int
 nN:Int
 bQ:Int
 upto:Int
 sum:Int
 deriving DecidableEq
structure Signed where
 set:dw
 sigs:List dE
 deriving DecidableEq
structure aK where
 af:Text
 J:List Signed
 deriving DecidableEq
structure bp where
 name:Text
 type:Int
 deriving DecidableEq
structure dJ where
 kind:Int
 J:List Signed
 cut:Text
 deriving DecidableEq
@[reducible] def Datum.enc (d : Datum) : DV := .agg [.str d.text, .int .i64 d.n, .int .i64 d.m]
@[reducible] def rH (l : List Datum) : DV := .sl (l.map Datum.enc)
@[reducible] def dw.enc (s : dw) : DV := .agg [.str s.name, .int .i64 s.type, .int .i64 s.dD, rH s.data]
@[reducible] def dE.enc (g : dE) : DV := .agg [.str g.ar, .int .i64 g.key, .int .i64 g.nN, .int .i64 g.bQ, .int .i64 g.upto, .int .u64 g.sum]
@[reducible] def rI (l : List dE) : DV := .sl (l.map dE.enc)
@[reducible] def Signed.enc (x : Signed) : DV := .agg [.str x.set.name, .int .i64 x.set.type, .int .i64 x.set.dD, rH x.set.data, rI x.sigs]
@[reducible] def tj (l : List Signed) : DV := .sl (l.map Signed.enc)
@[reducible] def aK.enc (z : aK) : DV := .agg [.str z.af, tj z.J]
@[reducible] def bp.enc (q : bp) : DV := .agg [.str q.name, .int .i64 q.type]
@[reducible] def dJ.enc (a : dJ) : DV := .agg [.int .i64 a.kind, .sl (a.J.map Signed.enc), .str a.cut]
def fY(n:Int):Prop := -9223372036854775808<=n/\n<=9223372036854775807
theorem wrap64{n:Int}(h1 : -9223372036854775808<=n)(h2:n<=9223372036854775807):IntKind.i64.wrap n=n:=by
 rw[IntWalk.i64_in n ⟨h1,h2⟩]
class FN (i:FuncId) (fn:outParam Func):Prop where h:E.P.funcs[i]?=some fn
theorem gC{P Q:Prop}(H:Q)(e:Q->P:=by(intro q;(conv=>whnf);refine I.run ag FN.h 2000 (Eq.mpr ?_ q);(conv=>lhs;whnf))):P:=e H
theorem zT{P Q:Prop}(H:Q)(e:Q->P:=by(intro q;refine I.head ag FN.h 2000 (Eq.mpr ?_ q);(conv=>lhs;whnf))):P:=e H
theorem aQ {f : FuncId} {fn : Func} [c : FN f fn] {h : List ae} {args : List AV} {Q : AV -> List ae -> Prop} (H : runK E f fn.results.toList ⟨h.length, Q, [], ⟨f, none, [], [], [], []⟩⟩ 2000 [] [.code (fn.body.getD .skip)] (oC args fn.ntmps) h) (hb : fn.body = some (fn.body.getD .skip) := by exact rfl) (hn : (fn.name == "runtime.NumGoroutine") = false := by decide) (hf : qv h = true := by exact rfl) : au E f h args Q := au.run ag c.h hb hn 2000 hf H
theorem aE{P Q:Prop}(H:Q)(e:Q->P:=by(intro q;refine aQ (Eq.mpr ?_ q);(conv=>lhs;whnf))):P:=e H
theorem nA{A B K:Prop}(k:K)(a:A:=by(simp;omega))(b:B:=by(simp[DV.cells])):need (A/\B) K:=bj ⟨a,b⟩ k
theorem gO{aj:FuncId}{fn:Func}(hf:E.P.funcs[aj]?=some fn){R:cT}{lits:List Nat}{td:List aY}{s:List AV}{h:List ae}{P Q:Prop}(H:Q)(e0:P=I E aj R lits td s h:=by(conv=>lhs;whnf))(e1:runK E aj fn.results.toList R 2000 lits td s h=Q:=by(conv=>lhs;whnf)):P:=by
 rw[e0];exact I.run ag hf 2000 (e1 ▸ H)
theorem gD{aj:FuncId}{R:cT}{ops:Array Oper}{k:List aY}{lits:List Nat}{j:Nat}{gN:List Oper}{acc:List (Nat × ja)}{bo:List (Nat × Nat)}{s:List AV}{h:List ae}{P Q:Prop}(H:Q)(e0:P=bU E aj R ops k lits j gN acc bo s h:=by(conv=>lhs;whnf))(e1:lJ E aj R ops k 2000 lits j gN acc bo s h=Q:=by(conv=>lhs;whnf)):P:=by
 rw[e0];exact bU.run ag 2000 (e1 ▸ H)
theorem gA{aj:FuncId}{fn:Func}(hf:E.P.funcs[aj]?=some fn){R:cT}{lits:List Nat}{td:List aY}{s:List AV}{h:List ae}{P Q:Prop}(H:Q)(e0:P=I E aj R lits td s h:=by(conv=>lhs;whnf))(e1:runK E aj fn.results.toList R 2000 lits td s h=Q:=by(conv=>lhs;whnf))(_:Q->Q:=by(intro h;(fail_if_success (with_reducible refine I.of ?_));exact h)):P:=gO hf H e0 e1
theorem gB{aj:FuncId}{R:cT}{ops:Array Oper}{k:List aY}{lits:List Nat}{j:Nat}{gN:List Oper}{acc:List (Nat × ja)}{bo:List (Nat × Nat)}{s:List AV}{h:List ae}{P Q:Prop}(H:Q)(e0:P=bU E aj R ops k lits j gN acc bo s h:=by(conv=>lhs;whnf))(e1:lJ E aj R ops k 2000 lits j gN acc bo s h=Q:=by(conv=>lhs;whnf))(_:Q->Q:=by(intro h;(fail_if_success (with_reducible refine bU.is ?_));exact h)):P:=gD H e0 e1
theorem eP {f : FuncId} {fn : Func} (hf : E.P.funcs[f]? = some fn) {args : List DV} {R : DV -> Prop} {Q : Prop} (H : Q) (hb : fn.body = some (fn.body.getD .skip) := by rfl) (hn : (fn.name == "runtime.NumGoroutine") = false := by decide) (e : (qh .d args fun a => runK E f fn.results.toList ⟨0, uA R, [], ⟨f, none, [], [], [], []⟩⟩ 2000 [] [.code (fn.body.getD .skip)] (oC a fn.ntmps) []) = Q := by (conv => lhs; whnf)) : aq E f args R := aq.run ag hf hb hn 2000 (e ▸ H)
def rg(a:Nat):Nat->List Nat
 |0=>[]
 |n+1=>a::rg (a+1) n
theorem sI{P Q:Prop}(q:Q)(p:P:=by first|with_reducible rfl|exact congrArg (DV.int .i64) oM|exact congrArg (DV.int .i64) (wrap64 oM oM)|exact congrArg (DV.int .i64) ((wrap64 oM oM).trans oM)):P/\Q:=⟨p,q⟩
theorem sZ{P:Prop}(h:P:=by((conv=>whnf);repeat (first|exact trivial|(refine sI ?_;conv=>whnf)))):P:=h
theorem fW{P Q:Prop}(q:Q) (h:Q->P:=by
 intro q
 conv =>
  arg 3
  try whnf
  try conv=>arg 1;whnf
  try conv=>arg 2;whnf
  try conv=>arg 3;whnf
  try conv=>arg 3;arg 2;whnf
  try conv=>arg 4;whnf
  try conv=>arg 4;arg 1;whnf
  try conv=>arg 4;arg 2;whnf
  try conv=>arg 4;arg 3;whnf
  try conv=>arg 4;arg 4;whnf
  try conv=>arg 4;arg 4;arg 2;whnf
  try conv=>arg 4;arg 4;arg 1;arg 1;whnf
  try conv=>arg 4;arg 4;arg 1;arg 1;arg 2;whnf
  try conv=>arg 4;arg 4;arg 1;arg 1;arg 3;whnf
  try conv=>arg 4;arg 4;arg 1;arg 1;arg 3;arg 2;whnf
  try conv=>arg 4;arg 5;whnf
  try conv=>arg 4;arg 5;arg 2;whnf
  try conv=>arg 4;arg 6;whnf
 exact q):P:=h q
theorem dU{P Q:Prop}(q:Q)(h:Q->P:=by intro q;refine I.Wa ag wV 2000 (by kernel_rfl) ?_;(conv=>whnf);exact q):P:=h q
section
open Go.Proofs.Tryz
instance F3:FN 3 f3:=⟨func3⟩
instance F4:FN 4 f4:=⟨func4⟩
instance F5:FN 5 f5:=⟨func5⟩
instance F6:FN 6 f6:=⟨func6⟩
instance F7:FN 7 f7:=⟨func7⟩
instance F8:FN 8 f8:=⟨func8⟩
instance F9:FN 9 f9:=⟨func9⟩
instance F10:FN 10 f10:=⟨func10⟩
instance F12:FN 12 f12:=⟨func12⟩
instance F13:FN 13 f13:=⟨func13⟩
instance F14:FN 14 f14:=⟨func14⟩
instance F15:FN 15 f15:=⟨func15⟩
instance F16:FN 16 f16:=⟨func16⟩
instance F17:FN 17 f17:=⟨func17⟩
instance F18:FN 18 f18:=⟨func18⟩
instance F19:FN 19 f19:=⟨func19⟩
instance F20:FN 20 f20:=⟨func20⟩
instance F21:FN 21 f21:=⟨func21⟩
instance F22:FN 22 f22:=⟨func22⟩
instance F23:FN 23 f23:=⟨func23⟩
instance F24:FN 24 f24:=⟨func24⟩
instance F25:FN 25 f25:=⟨func25⟩
instance F26:FN 26 f26:=⟨func26⟩
instance F29:FN 29 f29:=⟨func29⟩
instance F30:FN 30 f30:=⟨func30⟩
instance F31:FN 31 f31:=⟨func31⟩
instance F32:FN 32 f32:=⟨func32⟩
instance F34:FN 34 f34:=⟨func34⟩
instance F35:FN 35 f35:=⟨func35⟩
instance F38:FN 38 f38:=⟨func38⟩
instance F39:FN 39 f39:=⟨func39⟩
instance F41:FN 41 f41:=⟨func41⟩
instance F42:FN 42 f42:=⟨func42⟩
instance F44:FN 44 f44:=⟨func44⟩
instance F45:FN 45 f45:=⟨func45⟩
instance F47:FN 47 f47:=⟨func47⟩
instance F48:FN 48 f48:=⟨func48⟩
instance F49:FN 49 f49:=⟨func49⟩
instance F50:FN 50 f50:=⟨func50⟩
instance F51:FN 51 f51:=⟨func51⟩
instance F54:FN 54 f54:=⟨func54⟩
instance F55:FN 55 f55:=⟨func55⟩
instance F56:FN 56 f56:=⟨func56⟩
instance F57:FN 57 f57:=⟨func57⟩
instance F58:FN 58 f58:=⟨func58⟩
instance F59:FN 59 f59:=⟨func59⟩
instance F60:FN 60 f60:=⟨func60⟩
instance F61:FN 61 f61:=⟨func61⟩
instance F62:FN 62 f62:=⟨func62⟩
instance F63:FN 63 f63:=⟨func63⟩
instance F64:FN 64 f64:=⟨func64⟩
instance F68:FN 68 f68:=⟨func68⟩
instance F72:FN 72 f72:=⟨func72⟩
instance F73:FN 73 f73:=⟨func73⟩
instance F74:FN 74 f74:=⟨func74⟩
instance F75:FN 75 f75:=⟨func75⟩
instance F76:FN 76 f76:=⟨func76⟩
instance F78:FN 78 f78:=⟨func78⟩
instance F79:FN 79 f79:=⟨func79⟩
instance F80:FN 80 f80:=⟨func80⟩
instance F81:FN 81 f81:=⟨func81⟩
instance F86:FN 86 f86:=⟨func86⟩
instance F87:FN 87 f87:=⟨func87⟩
instance F89:FN 89 f89:=⟨func89⟩
instance F90:FN 90 f90:=⟨func90⟩
instance F91:FN 91 f91:=⟨func91⟩
instance F92:FN 92 f92:=⟨func92⟩
instance F93:FN 93 f93:=⟨func93⟩
instance F94:FN 94 f94:=⟨func94⟩
instance F96:FN 96 f96:=⟨func96⟩
instance F98:FN 98 f98:=⟨func98⟩
instance F99:FN 99 f99:=⟨func99⟩
instance F100:FN 100 f100:=⟨func100⟩
instance F101:FN 101 f101:=⟨func101⟩
instance F102:FN 102 f102:=⟨func102⟩
instance F103:FN 103 f103:=⟨func103⟩
instance F104:FN 104 f104:=⟨func104⟩
instance F105:FN 105 f105:=⟨func105⟩
instance F106:FN 106 f106:=⟨func106⟩
instance F108:FN 108 f108:=⟨func108⟩
instance F109:FN 109 f109:=⟨func109⟩
instance F110:FN 110 f110:=⟨func110⟩
instance F111:FN 111 f111:=⟨func111⟩
instance F113:FN 113 f113:=⟨func113⟩
instance F114:FN 114 f114:=⟨func114⟩
instance F115:FN 115 f115:=⟨func115⟩
instance F116:FN 116 f116:=⟨func116⟩
instance F118:FN 118 f118:=⟨func118⟩
instance F119:FN 119 f119:=⟨func119⟩
instance F122:FN 122 f122:=⟨func122⟩
instance F123:FN 123 f123:=⟨func123⟩
instance F124:FN 124 f124:=⟨func124⟩
instance F125:FN 125 f125:=⟨func125⟩
instance F126:FN 126 f126:=⟨func126⟩
instance F127:FN 127 f127:=⟨func127⟩
instance F128:FN 128 f128:=⟨func128⟩
instance F129:FN 129 f129:=⟨func129⟩
instance F130:FN 130 f130:=⟨func130⟩
instance F131:FN 131 f131:=⟨func131⟩
instance F135:FN 135 f135:=⟨func135⟩
instance F137:FN 137 f137:=⟨func137⟩
instance F139:FN 139 f139:=⟨func139⟩
instance F141:FN 141 f141:=⟨func141⟩
instance F142:FN 142 f142:=⟨func142⟩
instance F144:FN 144 f144:=⟨func144⟩
instance F145:FN 145 f145:=⟨func145⟩
instance F146:FN 146 f146:=⟨func146⟩
instance F147:FN 147 f147:=⟨func147⟩
instance F148:FN 148 f148:=⟨func148⟩
instance F149:FN 149 f149:=⟨func149⟩
instance F150:FN 150 f150:=⟨func150⟩
instance F151:FN 151 f151:=⟨func151⟩
instance F152:FN 152 f152:=⟨func152⟩
instance F153:FN 153 f153:=⟨func153⟩
instance F154:FN 154 f154:=⟨func154⟩
instance F155:FN 155 f155:=⟨func155⟩
instance F156:FN 156 f156:=⟨func156⟩
instance F157:FN 157 f157:=⟨func157⟩
instance F158:FN 158 f158:=⟨func158⟩
instance F159:FN 159 f159:=⟨func159⟩
instance F160:FN 160 f160:=⟨func160⟩
instance F161:FN 161 f161:=⟨func161⟩
instance F162:FN 162 f162:=⟨func162⟩
instance F163:FN 163 f163:=⟨func163⟩
instance F165:FN 165 f165:=⟨func165⟩
instance F166:FN 166 f166:=⟨func166⟩
instance F167:FN 167 f167:=⟨func167⟩
instance F169:FN 169 f169:=⟨func169⟩
instance F170:FN 170 f170:=⟨func170⟩
instance F173:FN 173 f173:=⟨func173⟩
instance F174:FN 174 f174:=⟨func174⟩
instance F175:FN 175 f175:=⟨func175⟩
instance F178:FN 178 f178:=⟨func178⟩
instance F179:FN 179 f179:=⟨func179⟩
instance F180:FN 180 f180:=⟨func180⟩
instance F181:FN 181 f181:=⟨func181⟩
instance F182:FN 182 f182:=⟨func182⟩
instance F183:FN 183 f183:=⟨func183⟩
instance F184:FN 184 f184:=⟨func184⟩
instance F186:FN 186 f186:=⟨func186⟩
instance F189:FN 189 f189:=⟨func189⟩
instance F190:FN 190 f190:=⟨func190⟩
instance F191:FN 191 f191:=⟨func191⟩
instance F193:FN 193 f193:=⟨func193⟩
instance F194:FN 194 f194:=⟨func194⟩
instance F199:FN 199 f199:=⟨func199⟩
instance F210:FN 210 f210:=⟨func210⟩
instance F211:FN 211 f211:=⟨func211⟩
instance F212:FN 212 f212:=⟨func212⟩
instance F214:FN 214 f214:=⟨func214⟩
instance F215:FN 215 f215:=⟨func215⟩
instance F216:FN 216 f216:=⟨func216⟩
instance F226:FN 226 f226:=⟨func226⟩
instance F227:FN 227 f227:=⟨func227⟩
instance F229:FN 229 f229:=⟨func229⟩
instance F230:FN 230 f230:=⟨func230⟩
instance F231:FN 231 f231:=⟨func231⟩
instance F232:FN 232 f232:=⟨func232⟩
instance F233:FN 233 f233:=⟨func233⟩
instance F234:FN 234 f234:=⟨func234⟩
instance F235:FN 235 f235:=⟨func235⟩
instance F239:FN 239 f239:=⟨func239⟩
instance F241:FN 241 f241:=⟨func241⟩
instance F243:FN 243 f243:=⟨func243⟩
instance F245:FN 245 f245:=⟨func245⟩
instance F246:FN 246 f246:=⟨func246⟩
instance F247:FN 247 f247:=⟨func247⟩
instance F249:FN 249 f249:=⟨func249⟩
instance F250:FN 250 f250:=⟨func250⟩
instance F253:FN 253 f253:=⟨func253⟩
instance F255:FN 255 f255:=⟨func255⟩
instance F260:FN 260 f260:=⟨func260⟩
instance F262:FN 262 f262:=⟨func262⟩
instance F266:FN 266 f266:=⟨func266⟩
instance F267:FN 267 f267:=⟨func267⟩
instance F268:FN 268 f268:=⟨func268⟩
instance F276:FN 276 f276:=⟨func276⟩
instance F277:FN 277 f277:=⟨func277⟩
instance F294:FN 294 f294:=⟨func294⟩
instance F295:FN 295 f295:=⟨func295⟩
instance F297:FN 297 f297:=⟨func297⟩
instance F298:FN 298 f298:=⟨func298⟩
instance F299:FN 299 f299:=⟨func299⟩
instance F300:FN 300 f300:=⟨func300⟩
instance F301:FN 301 f301:=⟨func301⟩
instance F303:FN 303 f303:=⟨func303⟩
instance F304:FN 304 f304:=⟨func304⟩
instance F305:FN 305 f305:=⟨func305⟩
instance F306:FN 306 f306:=⟨func306⟩
instance F307:FN 307 f307:=⟨func307⟩
instance F308:FN 308 f308:=⟨func308⟩
instance F309:FN 309 f309:=⟨func309⟩
instance F310:FN 310 f310:=⟨func310⟩
instance F312:FN 312 f312:=⟨func312⟩
instance F313:FN 313 f313:=⟨func313⟩
instance F314:FN 314 f314:=⟨func314⟩
instance F317:FN 317 f317:=⟨func317⟩
instance F318:FN 318 f318:=⟨func318⟩
instance F320:FN 320 f320:=⟨func320⟩
instance F323:FN 323 f323:=⟨func323⟩
instance F324:FN 324 f324:=⟨func324⟩
instance F330:FN 330 f330:=⟨func330⟩
instance F331:FN 331 f331:=⟨func331⟩
instance F332:FN 332 f332:=⟨func332⟩
instance F334:FN 334 f334:=⟨func334⟩
instance F335:FN 335 f335:=⟨func335⟩
instance F336:FN 336 f336:=⟨func336⟩
instance F338:FN 338 f338:=⟨func338⟩
instance F340:FN 340 f340:=⟨func340⟩
end
theorem cY{b:Bool}{A B:Prop}(h:A)(hb:b=true:=by first|decide|assumption):mh b A B:=aN hb h
theorem cN{b:Bool}{A B:Prop}(h:B)(hb:b=false:=by first|decide|assumption):mh b A B:=aP hb h
structure Wr(Q:Prop):Prop where q:Q
theorem cX{b:Bool}{A B Q:Prop}(q:Q)(h:Q->mh b A B:=by(intro q;first|exact cY q|exact cN q)):mh b A B:=h q
theorem gF{P Q:Prop}(H:Q)(e:Q->P:=by(intro q;(conv=>whnf);refine I.run ag FN.h 2000 (Eq.mpr ?_ q);(conv=>lhs;whnf)))(_:Q->Q:=by(intro h;(fail_if_success (with_reducible refine I.of ?_));exact h)):P:=e H
theorem gE{P Q:Prop}(q:Q)(e:Q->P:=by(intro q;first|exact gF q|exact gB q)):P:=e q
theorem cC{P Q:Prop}{f:FuncId}{ds:List DV}{r:DV}(c:aq E f ds (· = r))(q:Q)(h:aq E f ds (· = r)->Q->P:=by(intro c q;first|exact ao c q|exact ax c q)):P:=h c q
theorem sY{P Q:Prop}(q:Q)(h:Wr Q->P:=by(intro q;(conv=>whnf);(repeat (first|exact trivial|(refine sI ?_;conv=>whnf)));exact q.q)):P:=h ⟨q⟩
theorem I.lP{aj:FuncId}{R:cT}{s:List AV}{h:List ae}{lits:List Nat}{b:Code}{k:List aY}(n:Nat)(fm:List Nat)(vars:Nat->List (Nat × AV))(boxes:Nat->List (Nat × ae))(Φ:Nat->Prop)(h0:Φ 0)(oN:rC fm (mi (boxes 0)) (vars 0) (boxes 0) s h fun s' h'=>uT h h' R.fx (uS R.n h s h' s'))(hr:∀ x,Φ x->(∀ y,Φ y->n-y<n-x->I E aj R [] (.inLoop b::k) (lE (vars y) (anyS fm (lG (mi (boxes 0)) s))) (lF (boxes y) h))->I E aj R [] (.code b :: .inLoop b::k) (lE (vars x) (anyS fm (lG (mi (boxes 0)) s))) (lF (boxes x) h)):I E aj R lits (.code (.loop b)::k) s h:=I.loop fm vars boxes Φ (fun k=>n-k) 0 h0 oN hr
theorem vT{P Q:Prop}(q:Q)(e:Q->P:=by(intro q;exact aZ (gC q))):P:=e q
theorem vF{P Q:Prop}(q:Q)(e:Q->P:=by(intro q;exact aU (gC q))):P:=e q
theorem zA{P A B:Prop}{b:Bool}(h:b=true->A)(k:b=false->B)(e:mh b A B->P:=by(intro q;exact zT q)):P:=e (ah h k)
end Go.Proofs.YtlhehdgciafakaaGreatDoor.P
end

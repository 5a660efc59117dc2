/- Lemmas of mine. Conditions: as stated. -/
import Derived.Test.YtfmdaiojokniiaaGreatDoorS3
set_option linter.unusedVariables false
set_option linter.unusedSimpArgs false
section
namespace Go.Proofs.YtfmdaiojokniiaaGreatDoor
open Go Go.aA
def Cs:DV := .agg [.int .i64 0,.int .i64 0,.int .i64 0,.int .i64 0,.int .i64 0,.bool false,.bool false,.bool false,.int .i64 0,.int .i64 1,.int .i64 1000000,.int .i64 0,.int .i64 0,.bool false,.bool false,.bool true,.int .i64 1,.int .i64 0,.int .i64 0,.int .i64 0,.int .i64 0,.bool false,.bool false,.bool false,.int .i64 1,.int .i64 0,.int .i64 0,.int .i64 0,.int .i64 0,.bool false,.bool true,.bool false,.int .i64 0,.int .i64 0,.int .i64 65535,.int .i64 0,.int .i64 100000,.bool false,.bool true,.bool false,.int .i64 3,.int .i64 0,.int .i64 0,.int .i64 0,.int .i64 0,.bool false,.bool false,.bool true,.int .i64 0,.int .i64 1,.int .i64 1000000,.int .i64 1,.int .i64 3,.bool false,.bool false,.bool false,.int .i64 0,.int .i64 1,.int .i64 1000000,.int .i64 1,.int .i64 3,.bool false,.bool false,.bool false,.int .i64 2,.int .i64 2,.int .i64 510,.int .i64 0,.int .i64 0,.bool true,.bool false,.bool true]
abbrev qFz:bu:=⟨.func,1,8,[.az]⟩
def types:List bu:=[
 ⟨.other,1,0,[]⟩,
 qFz,
 ⟨.int .i64,1,8,[.int .i64 0]⟩,
 ⟨.int .i64,1,8,[.int .i64 0]⟩,
 ⟨.bool,1,1,[.bool false]⟩,
 ⟨.int .u8,1,1,[.int .u8 0]⟩,
 ⟨.int .u8,1,1,[.int .u8 0]⟩,
 ⟨.struct [(0,2),(1,3),(2,4),(3,6)],4,24,[.int .i64 0,.int .i64 0,.bool false,.int .u8 0]⟩,
 ⟨.struct [(0,2),(1,3),(2,4),(3,6)],4,24,[.int .i64 0,.int .i64 0,.bool false,.int .u8 0]⟩,
 ⟨.string,1,16,[.str []]⟩,
 ⟨.string,1,16,[.str []]⟩,
 ⟨.string,1,16,[.str []]⟩,
 ⟨.int .u64,1,8,[.int .u64 0]⟩,
 ⟨.struct [(0,9),(1,12)],2,24,[.str [],.int .u64 0]⟩,
 ⟨.struct [(0,9),(1,12)],2,24,[.str [],.int .u64 0]⟩,
 ⟨.pointer 385,1,8,[.ec]⟩,
 ⟨.pointer 388,1,8,[.ec]⟩,
 ⟨.pointer 395,1,8,[.ec]⟩,
 ⟨.struct [(0,17)],1,8,[.ec]⟩,
 ⟨.struct [(0,17)],1,8,[.ec]⟩,
 ⟨.iface,1,16,[.eR]⟩,
 ⟨.int .i32,1,4,[.int .i32 0]⟩,
 ⟨.slice 84,1,24,[.aI]⟩,
 ⟨.slice 68,1,24,[.aI]⟩,
 ⟨.slice 131,1,24,[.aI]⟩,
 ⟨.struct [(0,9),(1,3),(2,3),(3,24)],4,56,[.str [],.int .i64 0,.int .i64 0,.aI]⟩,
 ⟨.struct [(0,9),(1,3),(2,3),(3,24)],4,56,[.str [],.int .i64 0,.int .i64 0,.aI]⟩,
 ⟨.slice 3,1,24,[.aI]⟩,
 ⟨.struct [(0,22),(1,23),(2,26),(6,27),(7,3),(8,3)],9,144,[.aI,.aI,.str [],.int .i64 0,.int .i64 0,.aI,.aI,.int .i64 0,.int .i64 0]⟩,
 ⟨.struct [(0,22),(1,23),(2,26),(6,27),(7,3),(8,3)],9,144,[.aI,.aI,.str [],.int .i64 0,.int .i64 0,.aI,.aI,.int .i64 0,.int .i64 0]⟩,
 ⟨.slice 57,1,24,[.aI]⟩,
 ⟨.slice 63,1,24,[.aI]⟩,
 ⟨.slice 98,1,24,[.aI]⟩,
 ⟨.struct [(0,29),(9,30),(10,31),(11,32)],12,216,[.aI,.aI,.str [],.int .i64 0,.int .i64 0,.aI,.aI,.int .i64 0,.int .i64 0,.aI,.aI,.aI]⟩,
 ⟨.struct [(0,29),(9,30),(10,31),(11,32)],12,216,[.aI,.aI,.str [],.int .i64 0,.int .i64 0,.aI,.aI,.int .i64 0,.int .i64 0,.aI,.aI,.aI]⟩,
 ⟨.struct [(0,9),(1,3)],2,24,[.str [],.int .i64 0]⟩,
 ⟨.struct [(0,9),(1,3)],2,24,[.str [],.int .i64 0]⟩,
 ⟨.slice 102,1,24,[.aI]⟩,
 ⟨.struct [(0,3),(1,37),(2,9)],3,48,[.int .i64 0,.aI,.str []]⟩,
 ⟨.struct [(0,3),(1,37),(2,9)],3,48,[.int .i64 0,.aI,.str []]⟩,
 ⟨.struct [(0,3),(1,3),(2,36),(4,39)],7,88,[.int .i64 0,.int .i64 0,.str [],.int .i64 0,.int .i64 0,.aI,.str []]⟩,
 ⟨.struct [(0,3),(1,3),(2,36),(4,39)],7,88,[.int .i64 0,.int .i64 0,.str [],.int .i64 0,.int .i64 0,.aI,.str []]⟩,
 qFz,
 qFz,
 qFz,
 qFz,
 ⟨.int .i64,1,8,[.int .i64 0]⟩,
 ⟨.other,1,0,[]⟩,
 qFz,
 ⟨.other,1,0,[]⟩,
 qFz,
 qFz,
 qFz,
 ⟨.slice 61,1,24,[.aI]⟩,
 ⟨.struct [(0,53)],1,24,[.aI]⟩,
 ⟨.struct [(0,53)],1,24,[.aI]⟩,
 ⟨.struct [(0,3),(1,55)],2,32,[.int .i64 0,.aI]⟩,
 ⟨.struct [(0,3),(1,55)],2,32,[.int .i64 0,.aI]⟩,
 ⟨.struct [(0,9),(1,37)],2,40,[.str [],.aI]⟩,
 ⟨.struct [(0,9),(1,37)],2,40,[.str [],.aI]⟩,
 ⟨.struct [(0,3),(1,59)],3,48,[.int .i64 0,.str [],.aI]⟩,
 ⟨.struct [(0,3),(1,59)],3,48,[.int .i64 0,.str [],.aI]⟩,
 ⟨.struct [(0,3),(1,3),(2,59)],4,56,[.int .i64 0,.int .i64 0,.str [],.aI]⟩,
 ⟨.struct [(0,3),(1,3),(2,59)],4,56,[.int .i64 0,.int .i64 0,.str [],.aI]⟩,
 qFz,
 ⟨.int .u16,1,2,[.int .u16 0]⟩,
 qFz,
 ⟨.struct [(0,3),(1,3),(2,3),(3,59)],5,64,[.int .i64 0,.int .i64 0,.int .i64 0,.str [],.aI]⟩,
 ⟨.struct [(0,3),(1,3),(2,3),(3,59)],5,64,[.int .i64 0,.int .i64 0,.int .i64 0,.str [],.aI]⟩,
 qFz,
 qFz,
 qFz,
 ⟨.struct [(0,22),(1,53),(2,26),(6,27)],7,128,[.aI,.aI,.str [],.int .i64 0,.int .i64 0,.aI,.aI]⟩,
 ⟨.struct [(0,22),(1,53),(2,26),(6,27)],7,128,[.aI,.aI,.str [],.int .i64 0,.int .i64 0,.aI,.aI]⟩,
 ⟨.other,1,0,[]⟩,
 qFz,
 qFz,
 qFz,
 qFz,
 qFz,
 qFz,
 ⟨.other,1,0,[]⟩,
 qFz,
 ⟨.struct [(0,9),(1,3),(2,3)],3,32,[.str [],.int .i64 0,.int .i64 0]⟩,
 ⟨.struct [(0,9),(1,3),(2,3)],3,32,[.str [],.int .i64 0,.int .i64 0]⟩,
 qFz,
 qFz,
 ⟨.other,1,0,[]⟩,
 qFz,
 qFz,
 qFz,
 ⟨.slice 241,1,24,[.aI]⟩,
 ⟨.struct [(0,91)],1,24,[.aI]⟩,
 ⟨.struct [(0,91)],1,24,[.aI]⟩,
 ⟨.slice 41,1,24,[.aI]⟩,
 ⟨.struct [(0,3),(1,36),(3,37)],4,56,[.int .i64 0,.str [],.int .i64 0,.aI]⟩,
 ⟨.struct [(0,3),(1,36),(3,37)],4,56,[.int .i64 0,.str [],.int .i64 0,.aI]⟩,
 ⟨.struct [(0,36),(2,3),(3,93),(4,94),(5,96)],9,136,[.str [],.int .i64 0,.int .i64 0,.aI,.aI,.int .i64 0,.str [],.int .i64 0,.aI]⟩,
 ⟨.struct [(0,36),(2,3),(3,93),(4,94),(5,96)],9,136,[.str [],.int .i64 0,.int .i64 0,.aI,.aI,.int .i64 0,.str [],.int .i64 0,.aI]⟩,
 qFz,
 ⟨.slice 190,1,24,[.aI]⟩,
 ⟨.struct [(0,26),(4,100)],5,80,[.str [],.int .i64 0,.int .i64 0,.aI,.aI]⟩,
 ⟨.struct [(0,26),(4,100)],5,80,[.str [],.int .i64 0,.int .i64 0,.aI,.aI]⟩,
 ⟨.pointer 55,1,8,[.ec]⟩,
 qFz,
 qFz,
 qFz,
 qFz,
 qFz,
 qFz,
 qFz,
 qFz,
 qFz,
 qFz,
 qFz,
 ⟨.slice 5,1,24,[.aI]⟩,
 ⟨.other,1,0,[]⟩,
 qFz,
 qFz,
 qFz,
 qFz,
 qFz,
 ⟨.map 215 4,1,8,[.jA]⟩,
 qFz,
 qFz,
 qFz,
 qFz,
 qFz,
 qFz,
 qFz,
 ⟨.struct [(0,9),(1,3),(2,3)],3,32,[.str [],.int .i64 0,.int .i64 0]⟩,
 ⟨.struct [(0,9),(1,3),(2,3)],3,32,[.str [],.int .i64 0,.int .i64 0]⟩,
 qFz,
 qFz,
 ⟨.slice 9,1,24,[.aI]⟩,
 qFz,
 qFz,
 qFz,
 qFz,
 qFz,
 qFz,
 qFz,
 qFz,
 qFz,
 qFz,
 qFz,
 qFz,
 qFz,
 ⟨.slice 59,1,24,[.aI]⟩,
 qFz,
 qFz,
 qFz,
 qFz,
 qFz,
 qFz,
 qFz,
 qFz,
 qFz,
 qFz,
 qFz,
 qFz,
 qFz,
 qFz,
 qFz,
 ⟨.map 166 167,1,8,[.jA]⟩,
 ⟨.struct [(0,3),(1,9)],2,24,[.int .i64 0,.str []]⟩,
 ⟨.struct [(0,3),(1,9)],2,24,[.int .i64 0,.str []]⟩,
 ⟨.slice 169,1,24,[.aI]⟩,
 ⟨.struct [(0,3),(1,3)],2,16,[.int .i64 0,.int .i64 0]⟩,
 ⟨.struct [(0,3),(1,3)],2,16,[.int .i64 0,.int .i64 0]⟩,
 qFz,
 qFz,
 qFz,
 qFz,
 ⟨.struct [(0,3),(1,3),(2,3),(3,3),(4,36),(6,39)],9,104,[.int .i64 0,.int .i64 0,.int .i64 0,.int .i64 0,.str [],.int .i64 0,.int .i64 0,.aI,.str []]⟩,
 ⟨.struct [(0,3),(1,3),(2,3),(3,3),(4,36),(6,39)],9,104,[.int .i64 0,.int .i64 0,.int .i64 0,.int .i64 0,.str [],.int .i64 0,.int .i64 0,.aI,.str []]⟩,
 qFz,
 ⟨.map 3 4,1,8,[.jA]⟩,
 qFz,
 ⟨.other,1,0,[]⟩,
 qFz,
 qFz,
 qFz,
 qFz,
 qFz,
 qFz,
 qFz,
 qFz,
 ⟨.int .u64,1,8,[.int .u64 0]⟩,
 ⟨.struct [(0,9),(1,3),(2,3),(3,3),(4,3),(5,188)],6,56,[.str [],.int .i64 0,.int .i64 0,.int .i64 0,.int .i64 0,.int .u64 0]⟩,
 ⟨.struct [(0,9),(1,3),(2,3),(3,3),(4,3),(5,188)],6,56,[.str [],.int .i64 0,.int .i64 0,.int .i64 0,.int .i64 0,.int .u64 0]⟩,
 qFz,
 qFz,
 qFz,
 ⟨.map 196 4,1,8,[.jA]⟩,
 ⟨.struct [(0,3),(1,3),(2,9)],3,32,[.int .i64 0,.int .i64 0,.str []]⟩,
 ⟨.struct [(0,3),(1,3),(2,9)],3,32,[.int .i64 0,.int .i64 0,.str []]⟩,
 qFz,
 ⟨.pointer 204,1,8,[.ec]⟩,
 ⟨.int .i8,1,1,[.int .i8 0]⟩,
 ⟨.int .i8,1,1,[.int .i8 0]⟩,
 ⟨.struct [(0,115),(1,3),(2,200)],3,40,[.aI,.int .i64 0,.int .i8 0]⟩,
 ⟨.struct [(0,115),(1,3),(2,200)],3,40,[.aI,.int .i64 0,.int .i8 0]⟩,
 ⟨.struct [(0,202)],3,40,[.aI,.int .i64 0,.int .i8 0]⟩,
 ⟨.struct [(0,202)],3,40,[.aI,.int .i64 0,.int .i8 0]⟩,
 qFz,
 qFz,
 qFz,
 qFz,
 qFz,
 qFz,
 qFz,
 qFz,
 qFz,
 ⟨.struct [(0,3),(1,9)],2,24,[.int .i64 0,.str []]⟩,
 ⟨.struct [(0,3),(1,9)],2,24,[.int .i64 0,.str []]⟩,
 ⟨.map 9 4,1,8,[.jA]⟩,
 qFz,
 qFz,
 qFz,
 qFz,
 qFz,
 qFz,
 qFz,
 ⟨.int .u64,1,8,[.int .u64 0]⟩,
 ⟨.other,1,0,[]⟩,
 qFz,
 ⟨.other,1,0,[]⟩,
 qFz,
 ⟨.pointer 233,1,8,[.ec]⟩,
 qFz,
 ⟨.map 36 3,1,8,[.jA]⟩,
 ⟨.struct [(0,9),(1,37),(2,231),(3,36),(5,9),(6,4),(7,9)],8,112,[.str [],.aI,.jA,.str [],.int .i64 0,.str [],.bool false,.str []]⟩,
 ⟨.struct [(0,9),(1,37),(2,231),(3,36),(5,9),(6,4),(7,9)],8,112,[.str [],.aI,.jA,.str [],.int .i64 0,.str [],.bool false,.str []]⟩,
 qFz,
 ⟨.slice 234,1,24,[.aI]⟩,
 ⟨.other,1,0,[]⟩,
 qFz,
 qFz,
 qFz,
 ⟨.struct [(0,102),(5,9),(6,3)],7,104,[.str [],.int .i64 0,.int .i64 0,.aI,.aI,.str [],.int .i64 0]⟩,
 ⟨.struct [(0,102),(5,9),(6,3)],7,104,[.str [],.int .i64 0,.int .i64 0,.aI,.aI,.str [],.int .i64 0]⟩,
 ⟨.struct [(0,59)],2,40,[.str [],.aI]⟩,
 ⟨.struct [(0,59)],2,40,[.str [],.aI]⟩,
 ⟨.struct [(0,243),(2,134)],3,64,[.str [],.aI,.aI]⟩,
 ⟨.struct [(0,243),(2,134)],3,64,[.str [],.aI,.aI]⟩,
 qFz,
 qFz,
 qFz,
 ⟨.string,1,16,[.str []]⟩,
 qFz,
 qFz,
 qFz,
 qFz,
 qFz,
 qFz,
 qFz,
 qFz,
 qFz,
 qFz,
 ⟨.iface,1,16,[.eR]⟩,
 ⟨.iface,1,16,[.eR]⟩,
 qFz,
 ⟨.int .u64,1,8,[.int .u64 0]⟩,
 qFz,
 ⟨.pointer 202,1,8,[.ec]⟩,
 qFz,
 qFz,
 qFz,
 qFz,
 qFz,
 qFz,
 qFz,
 qFz,
 ⟨.slice 4,1,24,[.aI]⟩,
 qFz,
 qFz,
 ⟨.map 279 4,1,8,[.jA]⟩,
 ⟨.struct [(0,3),(1,9)],2,24,[.int .i64 0,.str []]⟩,
 ⟨.struct [(0,3),(1,9)],2,24,[.int .i64 0,.str []]⟩,
 qFz,
 qFz,
 ⟨.int .i64,1,8,[.int .i64 0]⟩,
 ⟨.other,1,0,[]⟩,
 qFz,
 qFz,
 qFz,
 ⟨.other,1,0,[]⟩,
 qFz,
 qFz,
 ⟨.int .u32,1,4,[.int .u32 0]⟩,
 qFz,
 qFz,
 ⟨.other,1,0,[]⟩,
 qFz,
 qFz,
 qFz,
 qFz,
 qFz,
 qFz,
 qFz,
 qFz,
 qFz,
 qFz,
 qFz,
 qFz,
 qFz,
 qFz,
 qFz,
 ⟨.map 311 4,1,8,[.jA]⟩,
 ⟨.struct [(0,9),(1,3),(2,9)],3,40,[.str [],.int .i64 0,.str []]⟩,
 ⟨.struct [(0,9),(1,3),(2,9)],3,40,[.str [],.int .i64 0,.str []]⟩,
 qFz,
 qFz,
 qFz,
 ⟨.other,1,0,[]⟩,
 qFz,
 ⟨.array 4 3,4,32,[.int .i64 0,.int .i64 0,.int .i64 0,.int .i64 0]⟩,
 qFz,
 qFz,
 qFz,
 ⟨.pointer 263,1,8,[.ec]⟩,
 ⟨.other,1,0,[]⟩,
 qFz,
 ⟨.struct [(0,3),(1,3),(2,3),(3,3),(4,3),(5,4),(6,4),(7,4)],8,48,[.int .i64 0,.int .i64 0,.int .i64 0,.int .i64 0,.int .i64 0,.bool false,.bool false,.bool false]⟩,
 ⟨.struct [(0,3),(1,3),(2,3),(3,3),(4,3),(5,4),(6,4),(7,4)],8,48,[.int .i64 0,.int .i64 0,.int .i64 0,.int .i64 0,.int .i64 0,.bool false,.bool false,.bool false]⟩,
 ⟨.array 9 325,72,432,[.int .i64 0,.int .i64 0,.int .i64 0,.int .i64 0,.int .i64 0,.bool false,.bool false,.bool false,.int .i64 0,.int .i64 0,.int .i64 0,.int .i64 0,.int .i64 0,.bool false,.bool false,.bool false,.int .i64 0,.int .i64 0,.int .i64 0,.int .i64 0,.int .i64 0,.bool false,.bool false,.bool false,.int .i64 0,.int .i64 0,.int .i64 0,.int .i64 0,.int .i64 0,.bool false,.bool false,.bool false,.int .i64 0,.int .i64 0,.int .i64 0,.int .i64 0,.int .i64 0,.bool false,.bool false,.bool false,.int .i64 0,.int .i64 0,.int .i64 0,.int .i64 0,.int .i64 0,.bool false,.bool false,.bool false,.int .i64 0,.int .i64 0,.int .i64 0,.int .i64 0,.int .i64 0,.bool false,.bool false,.bool false,.int .i64 0,.int .i64 0,.int .i64 0,.int .i64 0,.int .i64 0,.bool false,.bool false,.bool false,.int .i64 0,.int .i64 0,.int .i64 0,.int .i64 0,.int .i64 0,.bool false,.bool false,.bool false]⟩,
 qFz,
 qFz,
 qFz,
 ⟨.int .u64,1,8,[.int .u64 0]⟩,
 qFz,
 qFz,
 qFz,
 ⟨.pointer 3,1,8,[.ec]⟩,
 qFz,
 qFz,
 qFz,
 qFz,
 qFz,
 qFz,
 qFz,
 qFz,
 qFz,
 qFz,
 qFz,
 qFz,
 qFz,
 qFz,
 qFz,
 qFz,
 qFz,
 qFz,
 qFz,
 qFz,
 qFz,
 qFz,
 ⟨.other,1,0,[]⟩,
 qFz,
 qFz,
 qFz,
 qFz,
 ⟨.pointer 330,1,8,[.ec]⟩,
 ⟨.other,1,0,[]⟩,
 qFz,
 qFz,
 qFz,
 qFz,
 qFz,
 qFz,
 qFz,
 qFz,
 qFz,
 qFz,
 qFz,
 ⟨.pointer 377,1,8,[.ec]⟩,
 ⟨.struct [(0,375),(1,115)],2,32,[.ec,.aI]⟩,
 ⟨.struct [(0,375),(1,115)],2,32,[.ec,.aI]⟩,
 qFz,
 ⟨.pointer 5,1,8,[.ec]⟩,
 ⟨.other,1,8,[.ec]⟩,
 qFz,
 qFz,
 ⟨.pointer 397,1,8,[.ec]⟩,
 ⟨.struct [(0,17),(1,17),(2,17),(3,9)],4,40,[.ec,.ec,.ec,.str []]⟩,
 ⟨.struct [(0,17),(1,17),(2,17),(3,9)],4,40,[.ec,.ec,.ec,.str []]⟩,
 ⟨.array 0 16,0,0,[]⟩,
 ⟨.struct [(0,386)],0,0,[]⟩,
 ⟨.struct [(0,386)],0,0,[]⟩,
 ⟨.int .u8,1,1,[.int .u8 0]⟩,
 ⟨.int .u8,1,1,[.int .u8 0]⟩,
 qFz,
 ⟨.int .i32,1,4,[.int .i32 0]⟩,
 ⟨.int .i32,1,4,[.int .i32 0]⟩,
 ⟨.struct [(0,12),(1,12),(2,290),(3,389),(4,5),(5,5),(6,390),(7,391),(8,379),(9,392),(10,393)],11,48,[.int .u64 0,.int .u64 0,.int .u32 0,.int .u8 0,.int .u8 0,.int .u8 0,.int .u8 0,.az,.ec,.int .i32 0,.int .i32 0]⟩,
 ⟨.struct [(0,12),(1,12),(2,290),(3,389),(4,5),(5,5),(6,390),(7,391),(8,379),(9,392),(10,393)],11,48,[.int .u64 0,.int .u64 0,.int .u32 0,.int .u8 0,.int .u8 0,.int .u8 0,.int .u8 0,.az,.ec,.int .i32 0,.int .i32 0]⟩,
 ⟨.struct [(0,9)],1,16,[.str []]⟩,
 ⟨.struct [(0,9)],1,16,[.str []]⟩,
 qFz]
def Gh:List (Nat × DV):=[(0,Cs)]
noncomputable def E:Env:=⟨Tryz.prog,types,Gh,[36,84,131,166,169,190,196,215,279,311,325]⟩
theorem Ct:E.P.follows .mixedOrders=true:=by kernel_rfl
theorem Th:(List.range 399).map (fe Tryz.prog)=types.map some:=by kernel_rfl
theorem Ti:E.Q.all (Bm E.P)=true:=by kernel_rfl
theorem ag:E.OK:=⟨fun t i hi=>by
 have h:=congrArg (·[t]?) Th;simp only[List.getElem?_map]at h;have cj:types[t]?=some i:=hi;rw[cj]at h;cases hr:(List.range 399)[t]? with
 |none=>rw[hr]at h;cases h
 |some u =>
  have hu:u=t:=by
   have ah:t<399:=by
    rcases Nat.lt_or_ge t 399 with h|h
    ·exact h
    ·rw[List.getElem?_eq_none (by simpa using h)]at hr;cases hr
   simp[ah]at hr;exact hr.symm
  subst hu;rw[hr]at h;have h2:fe Tryz.prog u=some i:=by simpa using h
  exact h2,fun t ht=>List.all_eq_true.1 Ti t ht⟩
end Go.Proofs.YtfmdaiojokniiaaGreatDoor
end
section
namespace Go.Proofs.YtfmdaiojokniiaaGreatDoor.P
open Go Go.aA
abbrev Text:=List UInt8
structure Datum where
 text:Text
 n:Int
 m:Int
 deriving DecidableEq
structure cM where
 name:Text
 type:Int
 bY:Int
 data:List Datum
 deriving DecidableEq
structure Key where
 n:Int
 ku:Int
 deriving DecidableEq
structure c9 where
 au:Text
 key:Int
 ku:Int
 bL:Int
 upto:Int
 sum:Int
 deriving DecidableEq
structure Signed where
 set:cM
 sigs:List c9
 deriving DecidableEq
structure bc where
 ao:Text
 ae:List Signed
 deriving DecidableEq
structure bC where
 name:Text
 type:Int
 deriving DecidableEq
structure dZ where
 kind:Int
 ae:List Signed
 cut:Text
 deriving DecidableEq
@[reducible] def Datum.enc (d : Datum) : DV := .agg [.str d.text, .int .i64 d.n, .int .i64 d.m]
@[reducible] def pX (l : List Datum) : DV := .sl (l.map Datum.enc)
@[reducible] def cM.enc (s : cM) : DV := .agg [.str s.name, .int .i64 s.type, .int .i64 s.bY, pX s.data]
@[reducible] def Key.enc (k : Key) : DV := .agg [.int .i64 k.n, .int .i64 k.ku]
@[reducible] def c9.enc (g : c9) : DV := .agg [.str g.au, .int .i64 g.key, .int .i64 g.ku, .int .i64 g.bL, .int .i64 g.upto, .int .u64 g.sum]
@[reducible] def pY (l : List c9) : DV := .sl (l.map c9.enc)
@[reducible] def Signed.enc (x : Signed) : DV := .agg [.str x.set.name, .int .i64 x.set.type, .int .i64 x.set.bY, pX x.set.data, pY x.sigs]
@[reducible] def zZ (l : List Signed) : DV := .sl (l.map Signed.enc)
@[reducible] def bc.enc (z : bc) : DV := .agg [.str z.ao, zZ z.ae]
@[reducible] def bC.enc (q : bC) : DV := .agg [.str q.name, .int .i64 q.type]
@[reducible] def dZ.enc (a : dZ) : DV := .agg [.int .i64 a.kind, .sl (a.ae.map Signed.enc), .str a.cut]
def eN(n:Int):Prop := -9223372036854775808<=n/\n<=9223372036854775807
theorem wrap64{n:Int}(h1 : -9223372036854775808<=n)(h2:n<=9223372036854775807):IntKind.i64.wrap n=n:=by
 rw[IntWalk.i64_in n ⟨h1,h2⟩]
theorem gO{aj:FuncId}{fn:Func}(hf:E.P.funcs[aj]?=some fn){R:cF}{lits:List Nat}{td:List aT}{s:List AV}{h:List af}{P Q:Prop}(H:Q)(e0:P=J E aj R lits td s h:=by(conv=>lhs;whnf))(e1:runK E aj fn.results.toList R 2000 lits td s h=Q:=by(conv=>lhs;whnf)):P:=by
 rw[e0];exact J.run ag hf 2000 (e1 ▸ H)
theorem gD{aj:FuncId}{R:cF}{ops:Array Oper}{k:List aT}{lits:List Nat}{j:Nat}{fK:List Oper}{acc:List (Nat × hU)}{bj:List (Nat × Nat)}{s:List AV}{h:List af}{P Q:Prop}(H:Q)(e0:P=bP E aj R ops k lits j fK acc bj s h:=by(conv=>lhs;whnf))(e1:kr E aj R ops k 2000 lits j fK acc bj s h=Q:=by(conv=>lhs;whnf)):P:=by
 rw[e0];exact bP.run ag 2000 (e1 ▸ H)
theorem gA{aj:FuncId}{fn:Func}(hf:E.P.funcs[aj]?=some fn){R:cF}{lits:List Nat}{td:List aT}{s:List AV}{h:List af}{P Q:Prop}(H:Q)(e0:P=J E aj R lits td s h:=by(conv=>lhs;whnf))(e1:runK E aj fn.results.toList R 2000 lits td s h=Q:=by(conv=>lhs;whnf))(_:Q->Q:=by(intro h;(fail_if_success (with_reducible refine J.of ?_));exact h)):P:=gO hf H e0 e1
theorem gB{aj:FuncId}{R:cF}{ops:Array Oper}{k:List aT}{lits:List Nat}{j:Nat}{fK:List Oper}{acc:List (Nat × hU)}{bj:List (Nat × Nat)}{s:List AV}{h:List af}{P Q:Prop}(H:Q)(e0:P=bP E aj R ops k lits j fK acc bj s h:=by(conv=>lhs;whnf))(e1:kr E aj R ops k 2000 lits j fK acc bj s h=Q:=by(conv=>lhs;whnf))(_:Q->Q:=by(intro h;(fail_if_success (with_reducible refine bP.is ?_));exact h)):P:=gD H e0 e1
theorem eP {f : FuncId} {fn : Func} (hf : E.P.funcs[f]? = some fn) {args : List DV} {R : DV -> Prop} {Q : Prop} (H : Q) (hb : fn.body = some (fn.body.getD .skip) := by rfl) (hn : (fn.name == "runtime.NumGoroutine") = false := by decide) (e : (oS .d args fun a => runK E f fn.results.toList ⟨0, ux R, [], ⟨f, none, [], [], [], []⟩⟩ 2000 [] [.code (fn.body.getD .skip)] (og a fn.ntmps) []) = Q := by (conv => lhs; whnf)) : ar E f args R := ar.run ag hf hb hn 2000 (e ▸ H)
def rg(a:Nat):Nat->List Nat
 |0=>[]
 |n+1=>a::rg (a+1) n
theorem sI{P Q:Prop}(q:Q)(p:P:=by first|with_reducible rfl|exact congrArg (DV.int .i64) (by omega)|exact congrArg (DV.int .i64) (wrap64 (by omega) (by omega))|exact congrArg (DV.int .i64) ((wrap64 (by omega) (by omega)).trans (by omega))):P/\Q:=⟨p,q⟩
theorem sZ{P:Prop}(h:P:=by((conv=>whnf);repeat (first|exact trivial|(refine sI ?_;conv=>whnf)))):P:=h
theorem fW{P Q:Prop}(q:Q) (h:Q->P:=by
 intro q
 conv =>
  arg 3
  try whnf
  try conv=>arg 1;whnf
  try conv=>arg 2;whnf
  try conv=>arg 3;whnf
  try conv=>arg 3;arg 2;whnf
  try conv=>arg 4;whnf
  try conv=>arg 4;arg 1;whnf
  try conv=>arg 4;arg 2;whnf
  try conv=>arg 4;arg 3;whnf
  try conv=>arg 4;arg 4;whnf
  try conv=>arg 4;arg 4;arg 2;whnf
  try conv=>arg 4;arg 4;arg 1;arg 1;whnf
  try conv=>arg 4;arg 4;arg 1;arg 1;arg 2;whnf
  try conv=>arg 4;arg 4;arg 1;arg 1;arg 3;whnf
  try conv=>arg 4;arg 4;arg 1;arg 1;arg 3;arg 2;whnf
  try conv=>arg 4;arg 5;whnf
  try conv=>arg 4;arg 5;arg 2;whnf
  try conv=>arg 4;arg 6;whnf
 exact q):P:=h q
theorem dU{P Q:Prop}(q:Q)(h:Q->P:=by intro q;refine J.Tb ag Ct 2000 (by kernel_rfl) ?_;(conv=>whnf);exact q):P:=h q
theorem sY{P Q:Prop}(q:Q)(h:Q->P:=by intro q;(conv=>whnf);repeat (first|exact trivial|(refine sI ?_;conv=>whnf));exact q):P:=h q
section
open Go.Proofs.Tryz
theorem F7:E.P.funcs[7]?=some f7:=func7
theorem F9:E.P.funcs[9]?=some f9:=func9
theorem F10:E.P.funcs[10]?=some f10:=func10
theorem F11:E.P.funcs[11]?=some f11:=func11
theorem F12:E.P.funcs[12]?=some f12:=func12
theorem F13:E.P.funcs[13]?=some f13:=func13
theorem F17:E.P.funcs[17]?=some f17:=func17
theorem F19:E.P.funcs[19]?=some f19:=func19
theorem F21:E.P.funcs[21]?=some f21:=func21
theorem F22:E.P.funcs[22]?=some f22:=func22
theorem F23:E.P.funcs[23]?=some f23:=func23
theorem F25:E.P.funcs[25]?=some f25:=func25
theorem F26:E.P.funcs[26]?=some f26:=func26
theorem F29:E.P.funcs[29]?=some f29:=func29
theorem F31:E.P.funcs[31]?=some f31:=func31
theorem F34:E.P.funcs[34]?=some f34:=func34
theorem F35:E.P.funcs[35]?=some f35:=func35
theorem F36:E.P.funcs[36]?=some f36:=func36
theorem F37:E.P.funcs[37]?=some f37:=func37
theorem F40:E.P.funcs[40]?=some f40:=func40
theorem F43:E.P.funcs[43]?=some f43:=func43
theorem F46:E.P.funcs[46]?=some f46:=func46
theorem F48:E.P.funcs[48]?=some f48:=func48
theorem F51:E.P.funcs[51]?=some f51:=func51
theorem F52:E.P.funcs[52]?=some f52:=func52
theorem F54:E.P.funcs[54]?=some f54:=func54
theorem F57:E.P.funcs[57]?=some f57:=func57
theorem F60:E.P.funcs[60]?=some f60:=func60
theorem F61:E.P.funcs[61]?=some f61:=func61
theorem F62:E.P.funcs[62]?=some f62:=func62
theorem F63:E.P.funcs[63]?=some f63:=func63
theorem F64:E.P.funcs[64]?=some f64:=func64
theorem F65:E.P.funcs[65]?=some f65:=func65
theorem F66:E.P.funcs[66]?=some f66:=func66
theorem F72:E.P.funcs[72]?=some f72:=func72
theorem F73:E.P.funcs[73]?=some f73:=func73
theorem F74:E.P.funcs[74]?=some f74:=func74
theorem F76:E.P.funcs[76]?=some f76:=func76
theorem F77:E.P.funcs[77]?=some f77:=func77
theorem F88:E.P.funcs[88]?=some f88:=func88
theorem F89:E.P.funcs[89]?=some f89:=func89
theorem F93:E.P.funcs[93]?=some f93:=func93
theorem F94:E.P.funcs[94]?=some f94:=func94
theorem F102:E.P.funcs[102]?=some f102:=func102
theorem F107:E.P.funcs[107]?=some f107:=func107
theorem F108:E.P.funcs[108]?=some f108:=func108
theorem F111:E.P.funcs[111]?=some f111:=func111
theorem F113:E.P.funcs[113]?=some f113:=func113
theorem F114:E.P.funcs[114]?=some f114:=func114
theorem F116:E.P.funcs[116]?=some f116:=func116
theorem F117:E.P.funcs[117]?=some f117:=func117
theorem F119:E.P.funcs[119]?=some f119:=func119
theorem F121:E.P.funcs[121]?=some f121:=func121
theorem F127:E.P.funcs[127]?=some f127:=func127
theorem F129:E.P.funcs[129]?=some f129:=func129
theorem F130:E.P.funcs[130]?=some f130:=func130
theorem F131:E.P.funcs[131]?=some f131:=func131
theorem F132:E.P.funcs[132]?=some f132:=func132
theorem F134:E.P.funcs[134]?=some f134:=func134
theorem F135:E.P.funcs[135]?=some f135:=func135
theorem F136:E.P.funcs[136]?=some f136:=func136
theorem F137:E.P.funcs[137]?=some f137:=func137
theorem F138:E.P.funcs[138]?=some f138:=func138
theorem F140:E.P.funcs[140]?=some f140:=func140
theorem F141:E.P.funcs[141]?=some f141:=func141
theorem F142:E.P.funcs[142]?=some f142:=func142
theorem F143:E.P.funcs[143]?=some f143:=func143
theorem F144:E.P.funcs[144]?=some f144:=func144
theorem F145:E.P.funcs[145]?=some f145:=func145
theorem F146:E.P.funcs[146]?=some f146:=func146
theorem F147:E.P.funcs[147]?=some f147:=func147
theorem F148:E.P.funcs[148]?=some f148:=func148
theorem F149:E.P.funcs[149]?=some f149:=func149
theorem F151:E.P.funcs[151]?=some f151:=func151
theorem F154:E.P.funcs[154]?=some f154:=func154
theorem F155:E.P.funcs[155]?=some f155:=func155
theorem F157:E.P.funcs[157]?=some f157:=func157
theorem F163:E.P.funcs[163]?=some f163:=func163
theorem F166:E.P.funcs[166]?=some f166:=func166
theorem F168:E.P.funcs[168]?=some f168:=func168
theorem F169:E.P.funcs[169]?=some f169:=func169
theorem F170:E.P.funcs[170]?=some f170:=func170
theorem F171:E.P.funcs[171]?=some f171:=func171
theorem F177:E.P.funcs[177]?=some f177:=func177
theorem F183:E.P.funcs[183]?=some f183:=func183
theorem F187:E.P.funcs[187]?=some f187:=func187
theorem F190:E.P.funcs[190]?=some f190:=func190
theorem F198:E.P.funcs[198]?=some f198:=func198
theorem F199:E.P.funcs[199]?=some f199:=func199
theorem F210:E.P.funcs[210]?=some f210:=func210
theorem F215:E.P.funcs[215]?=some f215:=func215
theorem F216:E.P.funcs[216]?=some f216:=func216
theorem F217:E.P.funcs[217]?=some f217:=func217
theorem F218:E.P.funcs[218]?=some f218:=func218
theorem F220:E.P.funcs[220]?=some f220:=func220
theorem F233:E.P.funcs[233]?=some f233:=func233
theorem F234:E.P.funcs[234]?=some f234:=func234
theorem F238:E.P.funcs[238]?=some f238:=func238
theorem F241:E.P.funcs[241]?=some f241:=func241
theorem F242:E.P.funcs[242]?=some f242:=func242
theorem F246:E.P.funcs[246]?=some f246:=func246
theorem F255:E.P.funcs[255]?=some f255:=func255
theorem F260:E.P.funcs[260]?=some f260:=func260
theorem F265:E.P.funcs[265]?=some f265:=func265
theorem F267:E.P.funcs[267]?=some f267:=func267
theorem F274:E.P.funcs[274]?=some f274:=func274
theorem F276:E.P.funcs[276]?=some f276:=func276
theorem F281:E.P.funcs[281]?=some f281:=func281
theorem F289:E.P.funcs[289]?=some f289:=func289
theorem F292:E.P.funcs[292]?=some f292:=func292
theorem F296:E.P.funcs[296]?=some f296:=func296
theorem F298:E.P.funcs[298]?=some f298:=func298
theorem F302:E.P.funcs[302]?=some f302:=func302
theorem F324:E.P.funcs[324]?=some f324:=func324
theorem F330:E.P.funcs[330]?=some f330:=func330
theorem F331:E.P.funcs[331]?=some f331:=func331
theorem F334:E.P.funcs[334]?=some f334:=func334
theorem F336:E.P.funcs[336]?=some f336:=func336
theorem F337:E.P.funcs[337]?=some f337:=func337
theorem F343:E.P.funcs[343]?=some f343:=func343
theorem F356:E.P.funcs[356]?=some f356:=func356
end
theorem cY{b:Bool}{A B:Prop}(h:A)(hb:b=true:=by first|decide|assumption):nv b A B:=aY hb h
theorem cN{b:Bool}{A B:Prop}(h:B)(hb:b=false:=by first|decide|assumption):nv b A B:=aU hb h
end Go.Proofs.YtfmdaiojokniiaaGreatDoor.P
end

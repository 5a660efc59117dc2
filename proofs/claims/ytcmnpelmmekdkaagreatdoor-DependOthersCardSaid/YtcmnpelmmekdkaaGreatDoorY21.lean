/- Several texts of mine, one behind the other. Conditions: as each says. -/
import Derived.Test.YtcmnpelmmekdkaaGreatDoorY16
import Derived.Shelf.SlSortCmp.Whole1
import Derived.Shelf.SlicesG.Cmp
import Derived.Shelf.Slices.CompactI
import Derived.Ground.SlgmProg
import Derived.Ground.Names2Prog
import Derived.Ground.SlsfProg
import Derived.Ground.SlgcProg
set_option linter.unusedVariables false
set_option linter.unusedSimpArgs false
section
namespace Go.ax
open Go Go.RowKit
section
variable {E:Env} {s:List AV} {h:List ag}
theorem OM {t:Nat} {x:Operand} {n:Int} {kt et:TypeId} (hu:E.P.underlying t=some (.map kt et)) (hx:bp E.G s x (.d (.int .i64 n))):aQ E (.makeMap t (some x)) s h (.map h.length) (h++[.map []]):=fun o c ac h1 h2 h3 h4=>by
 subst h2;have hv:=hx c ac h3 h4;obtain ⟨k1,k2⟩:=h3.add (.map []) 0 (.map #[] 0);have bC:(c.add (.map []) 0 (.map #[] 0)).own c.heap.length=some (c.w.heap.size,0):=by simp [Cx.add]
 have km:(c.add (.map []) 0 (.map #[] 0)).heap[c.heap.length]? = some (.map []):=by simp [Cx.add]
 refine ⟨_,.map (some c.w.heap.size),.inl ?_,rfl,k2 ⟨c.w.heap.size,0,#[],0,bC,heap_alloc_new _ _,⟨rfl,by simp,by simp,by simp,rfl⟩,fun j k x m hj=>by simp at hj⟩,.map c.heap.length [] c.w.heap.size 0 km bC,k1⟩;generalize uz:ac.eval x=u at hv;cases hv with
 |d _ _ hv =>
  cases hv;simp only [execOp,h1,Option.map_some,uz,Instr.makeMap,Sem.run_bind,Sem.run_pure,run_underlying hu,Result.andThen_ok];rfl
end
section
variable {E:Env} {ae:FuncId} {R:bY} {ops:Array Oper} {k:List aG} {F:List Nat} {n:Nat} {B:List Nat} {X:List ag} {lits:List Nat} {j:Nat} {o:Oper} {l:List Oper} {s:List AV} {h:List ag}
theorem bw.ON {t:Nat} {x:Operand} {m:Int} {kt et:TypeId} (hF:bV j F=false) (hg:o.guard=none) (cm:o.op = .makeMap t (some x)) (hu:E.P.underlying t=some (.map kt et)) (hx:bp E.G (bZ (b9 ops o) 0 s) x (.d (.int .i64 m)))
  (H:lH h (.map []) 0 fun h' m=>cU n B 0 h'=X∧bJ s o.dst (.map m) fun s'=>bw E ae R ops k F n B X lits (j+1) l s' h'):bw E ae R ops k F n B X lits j (o::l) s h:=by
 rw [nf,di,Nat.zero_add] at H;obtain ⟨H1,H⟩:=H;unfold bw;unfold fJ;rw [hF];exact ⟨_,_,dq.of (eO hg) (cm ▸ OM hu hx),fun t e=>(by rw [cm] at e; cases e),H1,H.to⟩
theorem aa.ON {t:Nat} {x:Operand} {m:Int} {kt et:TypeId} {k:List aG} (hg:o.guard=none) (cm:o.op = .makeMap t (some x)) (hu:E.P.underlying t=some (.map kt et)) (hx:bp E.G s x (.d (.int .i64 m)))
  (H:lH h (.map []) 0 fun h' m=>bJ s o.dst (.map m) fun s'=>aa E ae R lits (.bE ops l::k) s' h'):aa E ae R lits (.bE ops (o::l)::k) s h:=by
 rw [nf,di,Nat.zero_add] at H;exact .of (.op (eO hg) (v := .map h.length) (h':=h++[.map []]) (cm ▸ OM hu hx) H.to)
end
end Go.ax
end
section
namespace Go.Proofs.YtcmnpelmmekdkaaGreatDoor.P
open Go Go.ax Go.Sort Go.RowKit
theorem gv {α:Type} [Inhabited α] {K:Nat} (enc:α→List Value) (d:Array α) (i k:Nat) (hk:k<K) (x:α) (h:d[i]? = some x):(flatK enc K d)[i*K+k]! = (enc x)[k]! := by
 have hi:i<d.size:=by
  rcases Nat.lt_or_ge i d.size with h' | h'
  ·exact h'
  ·rw [Array.getElem?_eq_none h'] at h; cases h
 have hx:d[i]! = x:=by simp [getElem!_pos d i hi]; rw [Array.getElem?_eq_getElem hi] at h; exact Option.some.inj h
 have ai:i*K+k<d.size*K:=by
  have:(i+1)*K≤d.size*K:=Nat.mul_le_mul_right K hi;rw [Nat.succ_mul] at this;omega
 rw [get_flatK _ _ _ _ ai,show (i*K+k) / K=i by rw [Nat.mul_comm,Nat.mul_add_div (by omega),Nat.div_eq_of_lt hk]; rfl,show (i*K+k) % K=k by rw [Nat.mul_comm,Nat.mul_add_mod,Nat.mod_eq_of_lt hk],hx]
theorem Qh {α:Type} [Inhabited α] {enc:α→List Value} {K:Nat} {w:World} {blk n:Nat} {d:Array α} {os:Array Obj} {vs:Array Value} {ty:TypeId} (hb:w.heap[blk]? = some (.cells vs ty (0,0))) :
  let w':=sortWorldK enc K w blk 0 n d os
  w'.os=w.os∧w'.tape=w.tape∧w'.output=w.output∧w.heap.size≤w'.heap.size∧(∀ b,b<w.heap.size→b≠blk→w'.heap[b]? = w.heap[b]?)∧w'.heap[blk]? = some (.cells (putCells id 0 (flatK enc K d) vs) ty (0,0)):=by
 intro w';have ai:blk<w.heap.size:=by
  rcases Nat.lt_or_ge blk w.heap.size with h | h
  ·exact h
  ·rw [Array.getElem?_eq_none h] at hb; cases hb
 have bP:(putRowK enc K (Sort.ahead w n) blk 0 d).heap.size=w.heap.size:=by simp [putRowK,putRow,mapBlock]
 refine ⟨rfl,rfl,rfl,?_,fun b cP aJ=>?_,?_⟩
 ·show w.heap.size≤(grow _ os).heap.size;rw [size_grow,bP]; omega
 ·show (grow _ os).heap[b]? = _;rw [heap_grow_old _ _ (by rw [bP]; exact cP)];simp [putRowK,putRow,mapBlock,Array.getElem?_modify,Ne.symm aJ]
 ·show (grow _ os).heap[blk]? = _;rw [heap_grow_old _ _ (by rw [bP]; exact ai)];simp [putRowK,putRow,mapBlock,Array.getElem?_modify,hb,onCells]
structure ZU (cmp:DV→DV→Int) (l:List DV):Prop where
 irrefl:∀ x∈l,¬ cmp x x<0
 trans:∀ x∈l,∀ y∈l,∀ z∈l,cmp x y<0→cmp y z<0→cmp x z<0
 ntrans:∀ x∈l,∀ y∈l,∀ z∈l,¬ cmp x y<0→¬ cmp y z<0→¬ cmp x z<0
end Go.Proofs.YtcmnpelmmekdkaaGreatDoor.P
end
section
namespace Go.Proofs
open Go.Shelf
def Tryz.aao:Go.Shelf.Ren:=⟨fun | 5=>82 | 8=>115 | 7=>126 | 19=>180 | 20=>181 | 10=>194 | 11=>195 | 12=>196 | 13=>197 | 14=>198 | 15=>199 | 16=>200 | 17=>201 | 18=>202 | 30=>229 | 31=>221 | 32=>222 | 33=>230 | 34=>231 | 35=>204 | 40=>248 | n=>n,fun | 23=>27 | 25=>3 | 3=>3 | 32=>181 | 22=>27 | 0=>0 | 44=>238 | 46=>208 | 4=>4 | 36=>232 | 35=>231 | 41=>161 | 5=>5 | 9=>9 | 53=>258 | 57=>262 | 63=>281 | 64=>282 | n=>n,fun | n=>n⟩
theorem Tryz.sortInt:Go.Proofs.SlLaysM.n5 Tryz.prog Tryz.aao:={
 mixed:=by kernel_rfl
 f5:=⟨Tryz.f82.name,by decide,Tryz.func82.trans (congrArg some (by kernel_rfl))⟩
 f7:=⟨Tryz.f126.name,by decide,Tryz.func126.trans (congrArg some (by kernel_rfl))⟩
 f8:=Tryz.func115.trans (congrArg some (by kernel_rfl))
 f10:=⟨Tryz.f194.name,by decide,Tryz.func194.trans (congrArg some (by kernel_rfl))⟩
 f11:=⟨Tryz.f195.name,by decide,Tryz.func195.trans (congrArg some (by kernel_rfl))⟩
 f12:=⟨Tryz.f196.name,by decide,Tryz.func196.trans (congrArg some (by kernel_rfl))⟩
 f13:=⟨Tryz.f197.name,by decide,Tryz.func197.trans (congrArg some (by kernel_rfl))⟩
 f14:=⟨Tryz.f198.name,by decide,Tryz.func198.trans (congrArg some (by kernel_rfl))⟩
 f15:=⟨Tryz.f199.name,by decide,Tryz.func199.trans (congrArg some (by kernel_rfl))⟩
 f16:=⟨Tryz.f200.name,by decide,Tryz.func200.trans (congrArg some (by kernel_rfl))⟩
 f17:=⟨Tryz.f201.name,by decide,Tryz.func201.trans (congrArg some (by kernel_rfl))⟩
 f18:=⟨Tryz.f202.name,by decide,Tryz.func202.trans (congrArg some (by kernel_rfl))⟩
 f19:=Tryz.func180.trans (congrArg some (by kernel_rfl))
 f20:=Tryz.func181.trans (congrArg some (by kernel_rfl))
 f30:=⟨Tryz.f229.name,by decide,Tryz.func229.trans (congrArg some (by kernel_rfl))⟩
 f31:=Tryz.func221.trans (congrArg some (by kernel_rfl))
 f32:=Tryz.func222.trans (congrArg some (by kernel_rfl))
 f33:=⟨Tryz.f230.name,by decide,Tryz.func230.trans (congrArg some (by kernel_rfl))⟩
 f34:=⟨Tryz.f231.name,by decide,Tryz.func231.trans (congrArg some (by kernel_rfl))⟩
 f35:=⟨Tryz.f204.name,by decide,Tryz.func204.trans (congrArg some (by kernel_rfl))⟩
 f40:=⟨Tryz.f248.name,by decide,Tryz.func248.trans (congrArg some (by kernel_rfl))⟩
 t0:=Tryz.underlying0
 a0:=Tryz.isAgg0
 z0:=Tryz.sizeOf0
 v0:=Tryz.zeroValue0
 t3:=Tryz.underlying3
 a3:=Tryz.isAgg3
 z3:=Tryz.sizeOf3
 v3:=Tryz.zeroValue3
 t4:=Tryz.underlying4
 a4:=Tryz.isAgg4
 z4:=Tryz.sizeOf4
 v4:=Tryz.zeroValue4
 t5:=Tryz.underlying5
 a5:=Tryz.isAgg5
 z5:=Tryz.sizeOf5
 v5:=Tryz.zeroValue5
 t9:=Tryz.underlying9
 a9:=Tryz.isAgg9
 z9:=Tryz.sizeOf9
 v9:=Tryz.zeroValue9
 t22:=Tryz.underlying27
 a22:=Tryz.isAgg27
 z22:=Tryz.sizeOf27
 v22:=Tryz.zeroValue27
 t23:=Tryz.underlying27
 a23:=Tryz.isAgg27
 z23:=Tryz.sizeOf27
 v23:=Tryz.zeroValue27
 t25:=Tryz.underlying3
 a25:=Tryz.isAgg3
 z25:=Tryz.sizeOf3
 v25:=Tryz.zeroValue3
 t32:=Tryz.underlying181
 a32:=Tryz.isAgg181
 z32:=Tryz.sizeOf181
 v32:=Tryz.zeroValue181
 t35:=Tryz.underlying231
 a35:=Tryz.isAgg231
 z35:=Tryz.sizeOf231
 v35:=Tryz.zeroValue231
 t36:=Tryz.underlying232
 a36:=Tryz.isAgg232
 z36:=Tryz.sizeOf232
 v36:=Tryz.zeroValue232
 t41:=Tryz.underlying161
 a41:=Tryz.isAgg161
 z41:=Tryz.sizeOf161
 v41:=Tryz.zeroValue161
 t44:=Tryz.underlying238
 a44:=Tryz.isAgg238
 z44:=Tryz.sizeOf238
 v44:=Tryz.zeroValue238
 t46:=Tryz.underlying208
 a46:=Tryz.isAgg208
 z46:=Tryz.sizeOf208
 v46:=Tryz.zeroValue208
 t53:=Tryz.underlying258
 a53:=Tryz.isAgg258
 z53:=Tryz.sizeOf258
 v53:=Tryz.zeroValue258
 t57:=Tryz.underlying262
 a57:=Tryz.isAgg262
 z57:=Tryz.sizeOf262
 v57:=Tryz.zeroValue262
 t63:=Tryz.underlying281
 a63:=Tryz.isAgg281
 z63:=Tryz.sizeOf281
 v63:=Tryz.zeroValue281
 t64:=Tryz.underlying282
 a64:=Tryz.isAgg282
 z64:=Tryz.sizeOf282
 v64:=Tryz.zeroValue282 }
def Tryz.aap:Go.Shelf.Ren:=⟨fun | 6=>129 | 15=>115 | 14=>203 | 28=>180 | 29=>181 | 20=>232 | 21=>233 | 22=>234 | 23=>235 | 24=>236 | 25=>237 | 26=>238 | 27=>239 | 46=>249 | 47=>221 | 48=>222 | 49=>250 | 50=>251 | 57=>254 | n=>n,fun | 22=>142 | 24=>189 | 25=>196 | 3=>3 | 39=>181 | 0=>0 | 53=>238 | 55=>208 | 4=>4 | 46=>232 | 45=>231 | 50=>161 | 5=>5 | 9=>9 | 66=>258 | 70=>262 | 76=>281 | 77=>282 | n=>n,fun | n=>n⟩
theorem Tryz.Qx:Go.Proofs.SlLaysF0.n6 Tryz.prog Tryz.aap:={
 mixed:=by kernel_rfl
 f6:=⟨Tryz.f129.name,by decide,Tryz.func129.trans (congrArg some (by kernel_rfl))⟩
 f14:=⟨Tryz.f203.name,by decide,Tryz.func203.trans (congrArg some (by kernel_rfl))⟩
 f15:=Tryz.func115.trans (congrArg some (by kernel_rfl))
 f20:=⟨Tryz.f232.name,by decide,Tryz.func232.trans (congrArg some (by kernel_rfl))⟩
 f21:=⟨Tryz.f233.name,by decide,Tryz.func233.trans (congrArg some (by kernel_rfl))⟩
 f22:=⟨Tryz.f234.name,by decide,Tryz.func234.trans (congrArg some (by kernel_rfl))⟩
 f23:=⟨Tryz.f235.name,by decide,Tryz.func235.trans (congrArg some (by kernel_rfl))⟩
 f24:=⟨Tryz.f236.name,by decide,Tryz.func236.trans (congrArg some (by kernel_rfl))⟩
 f25:=⟨Tryz.f237.name,by decide,Tryz.func237.trans (congrArg some (by kernel_rfl))⟩
 f26:=⟨Tryz.f238.name,by decide,Tryz.func238.trans (congrArg some (by kernel_rfl))⟩
 f27:=⟨Tryz.f239.name,by decide,Tryz.func239.trans (congrArg some (by kernel_rfl))⟩
 f28:=Tryz.func180.trans (congrArg some (by kernel_rfl))
 f29:=Tryz.func181.trans (congrArg some (by kernel_rfl))
 f46:=⟨Tryz.f249.name,by decide,Tryz.func249.trans (congrArg some (by kernel_rfl))⟩
 f47:=Tryz.func221.trans (congrArg some (by kernel_rfl))
 f48:=Tryz.func222.trans (congrArg some (by kernel_rfl))
 f49:=⟨Tryz.f250.name,by decide,Tryz.func250.trans (congrArg some (by kernel_rfl))⟩
 f50:=⟨Tryz.f251.name,by decide,Tryz.func251.trans (congrArg some (by kernel_rfl))⟩
 f57:=⟨Tryz.f254.name,by decide,Tryz.func254.trans (congrArg some (by kernel_rfl))⟩
 t0:=Tryz.underlying0
 a0:=Tryz.isAgg0
 z0:=Tryz.sizeOf0
 v0:=Tryz.zeroValue0
 t3:=Tryz.underlying3
 a3:=Tryz.isAgg3
 z3:=Tryz.sizeOf3
 v3:=Tryz.zeroValue3
 t4:=Tryz.underlying4
 a4:=Tryz.isAgg4
 z4:=Tryz.sizeOf4
 v4:=Tryz.zeroValue4
 t5:=Tryz.underlying5
 a5:=Tryz.isAgg5
 z5:=Tryz.sizeOf5
 v5:=Tryz.zeroValue5
 t9:=Tryz.underlying9
 a9:=Tryz.isAgg9
 z9:=Tryz.sizeOf9
 v9:=Tryz.zeroValue9
 t22:=Tryz.underlying142
 a22:=Tryz.isAgg142
 z22:=Tryz.sizeOf142
 v22:=Tryz.zeroValue142
 t25:=Tryz.underlying196
 a25:=Tryz.isAgg196
 z25:=Tryz.sizeOf196
 v25:=Tryz.zeroValue196
 t39:=Tryz.underlying181
 a39:=Tryz.isAgg181
 z39:=Tryz.sizeOf181
 v39:=Tryz.zeroValue181
 t45:=Tryz.underlying231
 a45:=Tryz.isAgg231
 z45:=Tryz.sizeOf231
 v45:=Tryz.zeroValue231
 t46:=Tryz.underlying232
 a46:=Tryz.isAgg232
 z46:=Tryz.sizeOf232
 v46:=Tryz.zeroValue232
 t50:=Tryz.underlying161
 a50:=Tryz.isAgg161
 z50:=Tryz.sizeOf161
 v50:=Tryz.zeroValue161
 t53:=Tryz.underlying238
 a53:=Tryz.isAgg238
 z53:=Tryz.sizeOf238
 v53:=Tryz.zeroValue238
 t55:=Tryz.underlying208
 a55:=Tryz.isAgg208
 z55:=Tryz.sizeOf208
 v55:=Tryz.zeroValue208
 t66:=Tryz.underlying258
 a66:=Tryz.isAgg258
 z66:=Tryz.sizeOf258
 v66:=Tryz.zeroValue258
 t70:=Tryz.underlying262
 a70:=Tryz.isAgg262
 z70:=Tryz.sizeOf262
 v70:=Tryz.zeroValue262
 t76:=Tryz.underlying281
 a76:=Tryz.isAgg281
 z76:=Tryz.sizeOf281
 v76:=Tryz.zeroValue281
 t77:=Tryz.underlying282
 a77:=Tryz.isAgg282
 z77:=Tryz.sizeOf282
 v77:=Tryz.zeroValue282 }
def Tryz.aaq:Go.Shelf.Ren:=⟨fun | 6=>74 | 15=>115 | 14=>114 | 28=>180 | 29=>181 | 20=>172 | 21=>173 | 22=>174 | 23=>175 | 24=>176 | 25=>177 | 26=>178 | 27=>179 | 46=>220 | 47=>221 | 48=>222 | 49=>223 | 50=>224 | 57=>247 | n=>n,fun | 22=>32 | 24=>9 | 25=>45 | 3=>3 | 39=>181 | 0=>0 | 53=>238 | 55=>208 | 4=>4 | 46=>232 | 45=>231 | 50=>161 | 5=>5 | 9=>9 | 66=>258 | 70=>262 | 76=>281 | 77=>282 | n=>n,fun | n=>n⟩
theorem Tryz.aar:Go.Proofs.SlLaysF.n6 Tryz.prog Tryz.aaq:={
 mixed:=by kernel_rfl
 f6:=⟨Tryz.f74.name,by decide,Tryz.func74.trans (congrArg some (by kernel_rfl))⟩
 f14:=⟨Tryz.f114.name,by decide,Tryz.func114.trans (congrArg some (by kernel_rfl))⟩
 f15:=Tryz.func115.trans (congrArg some (by kernel_rfl))
 f20:=⟨Tryz.f172.name,by decide,Tryz.func172.trans (congrArg some (by kernel_rfl))⟩
 f21:=⟨Tryz.f173.name,by decide,Tryz.func173.trans (congrArg some (by kernel_rfl))⟩
 f22:=⟨Tryz.f174.name,by decide,Tryz.func174.trans (congrArg some (by kernel_rfl))⟩
 f23:=⟨Tryz.f175.name,by decide,Tryz.func175.trans (congrArg some (by kernel_rfl))⟩
 f24:=⟨Tryz.f176.name,by decide,Tryz.func176.trans (congrArg some (by kernel_rfl))⟩
 f25:=⟨Tryz.f177.name,by decide,Tryz.func177.trans (congrArg some (by kernel_rfl))⟩
 f26:=⟨Tryz.f178.name,by decide,Tryz.func178.trans (congrArg some (by kernel_rfl))⟩
 f27:=⟨Tryz.f179.name,by decide,Tryz.func179.trans (congrArg some (by kernel_rfl))⟩
 f28:=Tryz.func180.trans (congrArg some (by kernel_rfl))
 f29:=Tryz.func181.trans (congrArg some (by kernel_rfl))
 f46:=⟨Tryz.f220.name,by decide,Tryz.func220.trans (congrArg some (by kernel_rfl))⟩
 f47:=Tryz.func221.trans (congrArg some (by kernel_rfl))
 f48:=Tryz.func222.trans (congrArg some (by kernel_rfl))
 f49:=⟨Tryz.f223.name,by decide,Tryz.func223.trans (congrArg some (by kernel_rfl))⟩
 f50:=⟨Tryz.f224.name,by decide,Tryz.func224.trans (congrArg some (by kernel_rfl))⟩
 f57:=⟨Tryz.f247.name,by decide,Tryz.func247.trans (congrArg some (by kernel_rfl))⟩
 t0:=Tryz.underlying0
 a0:=Tryz.isAgg0
 z0:=Tryz.sizeOf0
 v0:=Tryz.zeroValue0
 t3:=Tryz.underlying3
 a3:=Tryz.isAgg3
 z3:=Tryz.sizeOf3
 v3:=Tryz.zeroValue3
 t4:=Tryz.underlying4
 a4:=Tryz.isAgg4
 z4:=Tryz.sizeOf4
 v4:=Tryz.zeroValue4
 t5:=Tryz.underlying5
 a5:=Tryz.isAgg5
 z5:=Tryz.sizeOf5
 v5:=Tryz.zeroValue5
 t9:=Tryz.underlying9
 a9:=Tryz.isAgg9
 z9:=Tryz.sizeOf9
 v9:=Tryz.zeroValue9
 t22:=Tryz.underlying32
 a22:=Tryz.isAgg32
 z22:=Tryz.sizeOf32
 v22:=Tryz.zeroValue32
 a24:=Tryz.isAgg9
 z24:=Tryz.sizeOf9
 t25:=Tryz.underlying45
 a25:=Tryz.isAgg45
 z25:=Tryz.sizeOf45
 v25:=Tryz.zeroValue45
 t39:=Tryz.underlying181
 a39:=Tryz.isAgg181
 z39:=Tryz.sizeOf181
 v39:=Tryz.zeroValue181
 t45:=Tryz.underlying231
 a45:=Tryz.isAgg231
 z45:=Tryz.sizeOf231
 v45:=Tryz.zeroValue231
 t46:=Tryz.underlying232
 a46:=Tryz.isAgg232
 z46:=Tryz.sizeOf232
 v46:=Tryz.zeroValue232
 t50:=Tryz.underlying161
 a50:=Tryz.isAgg161
 z50:=Tryz.sizeOf161
 v50:=Tryz.zeroValue161
 t53:=Tryz.underlying238
 a53:=Tryz.isAgg238
 z53:=Tryz.sizeOf238
 v53:=Tryz.zeroValue238
 t55:=Tryz.underlying208
 a55:=Tryz.isAgg208
 z55:=Tryz.sizeOf208
 v55:=Tryz.zeroValue208
 t66:=Tryz.underlying258
 a66:=Tryz.isAgg258
 z66:=Tryz.sizeOf258
 v66:=Tryz.zeroValue258
 t70:=Tryz.underlying262
 a70:=Tryz.isAgg262
 z70:=Tryz.sizeOf262
 v70:=Tryz.zeroValue262
 t76:=Tryz.underlying281
 a76:=Tryz.isAgg281
 z76:=Tryz.sizeOf281
 v76:=Tryz.zeroValue281
 t77:=Tryz.underlying282
 a77:=Tryz.isAgg282
 z77:=Tryz.sizeOf282
 v77:=Tryz.zeroValue282 }
end Go.Proofs
end

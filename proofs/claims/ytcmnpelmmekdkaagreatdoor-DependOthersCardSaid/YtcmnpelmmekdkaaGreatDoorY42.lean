/- Several texts of mine, one behind the other. Conditions: as each says. -/
import Derived.Test.YtcmnpelmmekdkaaGreatDoorY40
set_option linter.unusedVariables false
set_option linter.unusedSimpArgs false
namespace Go.Proofs.YtcmnpelmmekdkaaGreatDoor.P
open Go Go.ax
set_option maxRecDepth 100000
set_option maxHeartbeats 4000000
theorem AT {α β:Type} {f:α→List β} {c:Nat}:∀ {l:List α},(∀ x∈l,(f x).length≤c)→(l.flatMap f).length≤l.length*c
 | [],_=>by simp
 |x::l,h=>by
  have h1:=h x (List.mem_cons_self ..);have h2:=AT (l:=l) fun y hy=>h y (List.mem_cons_of_mem _ hy);rw [List.flatMap_cons,List.length_append,List.length_cons,Nat.add_mul];omega
theorem DJ {l:List aB} (H:dW l) (hl:l.length≤4000):(univ l).length≤2000000000:=by
 have:(univ l).length≤l.length*(20000*8):=AT fun p hp=>by
  have V:=lv (H p hp);have h1:(p.ay.af.flatMap fun s=>s.set.data.map (·.text)).length≤p.ay.af.length*8:=AT fun s hs=>by simp; exact ta V s hs
  have h2:=Nat.mul_le_mul_right 8 V.len;exact Nat.le_trans h1 h2
 have:=Nat.mul_le_mul_right (20000*8) hl;omega
def jd (w:ca) (s z:Text):List aS × Int:=if (dn w&&(Nm.valid s&&Nm.valid z))=true then (match (dM w.aq s).find? (fun v=>decide (z∈v.aq)) with | some v=>(v.list,0) | none=>([],4)) else ([],1)
end Go.Proofs.YtcmnpelmmekdkaaGreatDoor.P

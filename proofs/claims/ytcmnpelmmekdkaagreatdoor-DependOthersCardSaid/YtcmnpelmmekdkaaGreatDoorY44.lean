/- Several texts of mine, one behind the other. Conditions: as each says. -/
import Derived.Test.YtcmnpelmmekdkaaGreatDoorY43
import Derived.Shelf.SortM.SortNone
set_option linter.unusedVariables false
set_option linter.unusedSimpArgs false
section
namespace Go.Proofs.YtcmnpelmmekdkaaGreatDoor.P
open Go Go.ax
set_option maxRecDepth 100000
set_option maxHeartbeats 4000000
def vz (w:ca) (s:Text):List Int:=if (dn w&&Nm.valid s)=true then nX w (cB w.aq s) 32 else []
theorem Qc {w:ca} (h:dn w=true):∀ p∈w.aq,∃ x,w.cd[p.host.toNat]? = some x∧0≤p.host∧kf w p=x.owner∧0≤x.owner∧x.owner<32:=fun p hp=>by
 obtain ⟨h1,h2,-⟩:=AL.1 h;obtain ⟨-,h3,-⟩:=AK.1 h2;have h4:=h3 p hp;simp only [kb,Bool.and_eq_true,decide_eq_true_eq] at h4;obtain ⟨x,hx⟩:=aY (l:=w.cd) (k:=p.host.toNat) (by omega);simp only [jb,Bool.and_eq_true,decide_eq_true_eq,List.all_eq_true] at h1;have h5:=h1.1.2 x (List.mem_of_getElem? hx);simp only [mf,Bool.and_eq_true,decide_eq_true_eq] at h5;exact ⟨x,hx,h4.1.1,by rw [kf,hx],h5.1.1.2,h5.1.2⟩
theorem ZR {l:List aB} {s:Text} (H:dW l) (hl:l.length≤4000):(cB l s).length≤2000000000:=by
 rw [cB,← P4];exact Nat.le_trans (P7 fun z hz=>(P6 H (s:=s) (i:=(dM l s).length) z (by rw [List.take_length]; exact hz)).1) (ZM H hl)
end Go.Proofs.YtcmnpelmmekdkaaGreatDoor.P
end
section
namespace Go.Proofs.YtcmnpelmmekdkaaGreatDoor.P
open Go Go.ax Go.Sort
set_option maxRecDepth 100000
set_option maxHeartbeats 4000000
theorem aaU:QJ Tryz.prog 82:=fun blk cap zs w hH hblk bP=>AnyM.slices_Sort_int Tryz.sortInt blk 0 cap zs w hH hblk bP
theorem aaV (l:List Int) (hl:l≠[]) (hlen:l.length<4611686018427387904) :
  aC E 82 [.arr 0 (3,1) (l.map (DV.int .i64))] [.own 0 0] (fun a b=>a = .aL []∧b=[.arr 0 (3,1) ((jC l).map (DV.int .i64))]) :=
 aaT aaU ⟨_,Tryz.func82,rfl,by decide⟩ l hl hlen
end Go.Proofs.YtcmnpelmmekdkaaGreatDoor.P
end
section
namespace Go.ax
open Go Go.RowKit
theorem abd {c:Cx} {f:Fn} {v:Value} (hv:VR c (.d (.fn f)) v):VR c (.fn f [] []) v:=by
 cases hv with
 |d _ _ h=>cases h; exact .fn _ [] [] #[] #[] rfl rfl (fun j x v hx=>by simp at hx) (fun j x v hx=>by simp at hx)
theorem abe {c:Cx} {f:Fn} {v:Value} (hv:VR c (.fn f [] []) v):VR c (.d (.fn f)) v:=by
 obtain ⟨v1,v2,rfl,e1,e2⟩:=lP hv;obtain rfl:v1=[]:=List.eq_nil_of_length_eq_zero (by have:=e1.1; simpa using this.symm);obtain rfl:v2=[]:=List.eq_nil_of_length_eq_zero (by have:=e2.1; simpa using this.symm);exact .d _ _ (.fn f)
theorem abf {G:List (Nat × DV)} {s:List AV} {x:Operand} {f:Fn} (h:bp G s x (.d (.fn f))):bp G s x (.fn f [] []):=fun c a h3 h4=>abd (h c a h3 h4)
section
variable {E:Env} {s:List AV} {h:List ag}
theorem aa.QO {ae:FuncId} {R:bY} {lits:List Nat} {td:List aG} {b off:Nat} {f:Fn} {cs:List AV} (hb:h[b]? = some (.cells cs)) (hd:cs[off]? = some (.fn f [] []))
  (H:aa E ae R lits td s (h.set b (.cells (cs.set off (.d (.fn f)))))):aa E ae R lits td s h:=by
 replace H:=H.to;refine .of (.jJ (fun c t ea h1 h2 h3 h4 h5=>?_) H);subst h2;have ez:=aZ hb
 let c':Cx:={ c with heap:=c.heap.set b (.cells (cs.set off (.d (.fn f)))) }
 have oQ:c'.heap[b]? = some (.cells (cs.set off (.d (.fn f)))):=by
  show (c.heap.set b _)[b]? = _;rw [List.getElem?_set_self ez]
 have mV:∀ i,i≠b→c'.heap[i]? = c.heap[i]? := fun i hi=>by
  show (c.heap.set b _)[i]? = _;rw [List.getElem?_set_ne (Ne.symm hi)]
 have aR:Step c c':=⟨rfl,h3.bD,rfl,rfl,rfl,Nat.le_refl _,fun _ _ _=>rfl,fun i x n hi _=>⟨n,hi⟩,fun i bx hi=>by
  by_cases bL:i=b
  ·subst bL;rw [hb] at hi;cases hi;exact .inl ⟨_,oQ,rfl,by simp⟩
  ·exact ni hi (mV i bL) rfl⟩
 have aK:aE E.G c':=h3.next aR (fun i x n hi=>by
   have:=h3.bI i x n hi;refine ⟨this.1,?_⟩;show i<(c.heap.set b _).length;simp; omega) h3.inj (fun i bx hi=>by
  by_cases bL:i=b
  ·subst bL;rw [oQ] at hi;cases hi;right;obtain ⟨blk,cap,vs,ty,g1,g2,g3,g4⟩:=h3.box i _ hb;refine ⟨blk,cap,vs,ty,g1,g2,by simpa using g3,fun q x v hx hv=>?_⟩;by_cases hq:q=off
   ·subst hq;rw [List.getElem?_set_self (aZ hd)] at hx;cases hx;exact abe (aR.vr (g4 q _ v hd hv))
   ·rw [List.getElem?_set_ne (Ne.symm hq)] at hx;exact aR.vr (g4 q x v hx hv)
  ·rw [mV i bL] at hi
   exact .inl ⟨hi,rfl,fun _ _ _=>rfl⟩)
 exact ⟨c',t,ea,h1,rfl,aK,aR.vs h4,aR.cr h5,aR,fun _ => .refl _ _⟩
theorem aa.DW {ae:FuncId} {R:bY} {lits:List Nat} {td:List aG} {ops:Array Oper} {o:Oper} {l:List Oper} {fx:Operand} {args:Array Operand} {ts:Array TypeId} {f:FuncId} {ds:List DV} {r:DV} (hg:o.guard=none) (ho:o.op = .call { callee := .value fx,args:=args,argTypes:=ts })
  (hf:bp E.G s fx (.d (.fn (.func f)))) (ha:gU E.G s args.toList (ds.map .d)) (hc:aA E f ds (· = r))
  (H:bJ s o.dst (.d r) fun s'=>aa E ae R lits (.bE ops l::td) s' h):aa E ae R lits (.bE ops (o::l)::td) s h:=by
 rw [di] at H;exact .of (.call (eO hg) ho (abf hf) ha (by simp) hc fun r1 e=>by subst e; exact H.to)
end
end Go.ax
end

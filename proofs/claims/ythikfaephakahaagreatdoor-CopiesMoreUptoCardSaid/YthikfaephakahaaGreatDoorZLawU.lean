/- From a law's contract by the engine to what the second form of its row asks: arguments of small bulk. No conditions. -/
import Derived.Test.YthikfaephakahaaGreatDoorZM7
set_option linter.unusedVariables false
set_option linter.unusedSimpArgs false
set_option maxRecDepth 100000
namespace Go.Proofs.YthikfaephakahaaGreatDoor
open Go Go.Eng Go.ChangeShapes Go.WideShapes Go.ChangeAt Go.RowKit
theorem bulk_one {H:Type} (d:DataW H):1≤Rows.uptoBulk d:=by
 cases d with
 |lit l=>cases l <;> simp [Rows.uptoBulk]
 |nil=>simp [Rows.uptoBulk]
 |ptr d=>simp [Rows.uptoBulk]
 |slice elems spare=>simp [Rows.uptoBulk]
 |agg parts=>simp [Rows.uptoBulk]
 |iface t d=>simp [Rows.uptoBulk]
 |map entries=>simp [Rows.uptoBulk]
 |held h=>simp [Rows.uptoBulk]
theorem bulk_len {H:Type}:∀ (l:List (DataW H)),l.length≤Rows.uptoBulkAll l
 | []=>by simp [Rows.uptoBulkAll]
 |x::r=>by
  have h1:=bulk_one x;have h2:=bulk_len r;simp only [Rows.uptoBulkAll,List.length_cons];omega
theorem sl_bulk {H:Type} {enc:TypeId × Value→H} {W:World} {held:Bool} {t e:Nat} {v:Value} {d:DataW H} {p:List MemPlace} {l:List DV} (ht:Tryz.prog.underlying t=some (.slice e)) (h:DataW.Trod enc Tryz.prog W 0 (fun _=>true) held t v d p) (hv:VD (fun _=>False) W (.sl l) v):l.length≤Rows.uptoBulk d:=by
 obtain ⟨fuel,h⟩:=h;cases hv with
 |slnil=>exact Nat.zero_le _
 |slz a=>exact Nat.zero_le _
 |sl _ blk off cap sz f =>
  rcases DataW.trod_slice ht h with ⟨e1,-⟩ | ⟨a,len,cap',elems,rest,n,-,e1,e2,-,-,-,hel,-⟩
  ·cases e1
  ·cases e1;cases e2;have:=bulk_len (elems.map (·.1));simp only [Rows.uptoBulk,List.length_map] at this ⊢;omega
theorem args_bulk {H:Type} {enc:TypeId × Value→H} {W:World} {held:Bool}:∀ {ts:List Nat} {vs:List Value} {ds:List (DataW H)} {ps:List MemPlace} {xs:List DV},DataW.TrodAll enc Tryz.prog W 0 (fun _=>true) held ts vs ds ps→VLD (fun _=>False) W xs vs →
  ∀ (j t e:Nat) (l:List DV),ts[j]? = some t→Tryz.prog.underlying t=some (.slice e)→xs[j]? = some (.sl l)→l.length≤Rows.uptoBulkAll ds
 | [],_,_,_,_,_,_,j,t,e,l,ht,_,_=>by simp at ht
 |t0::ts,vs,ds,ps,xs,h,hx,j,t,e,l,ht,hu,hl=>by
  obtain ⟨v,vs1,d,ds1,p,q,rfl,rfl,rfl,h1,h2⟩:=trodAll_cons h;cases xs with
  |nil=>simp at hl
  |cons x xs =>
   simp only [Rows.uptoBulkAll];cases j with
   |zero =>
    simp at ht hl;subst ht;subst hl;have:=sl_bulk hu h1 (hx.2 0 (.sl l) v rfl rfl);omega
   |succ j =>
    have:=args_bulk h2 ⟨by have:=hx.1; simpa using this,fun i y u hy hu=>hx.2 (i+1) y u (by simpa using hy) (by simpa using hu)⟩ j t e l (by simpa using ht) hu (by simpa using hl);omega
theorem engine_law_upto {H:Type} {enc:TypeId × Value→H} {fid:FuncId} {fn:Func} {s:ChangeSpec} {W:World} {base:Nat} {args:Array Value} {ds gs:List (DataW H)} {before:List MemPlace} {tb:TypeId}
  (hk:Rows.uptoSmall H (ds++gs)=true)
  (hval:∀ (j:Nat) t v,fn.params[j]? = some t→args[j]? = some v→Value.okWide Tryz.prog W .any base t v)
  (hW:DataW.Whole enc Tryz.prog fn.params.toList s.vars false W args.toList ds gs before) (hG:GlobOK E.G (fun _=>False) W)
  (hok:fn.params.toList.all (okT E 20)=true) (hr:∀ t∈fn.params.toList,Tryz.prog.readableRec t=true∧t<Tryz.prog.types.size) (hv:s.vars=[]) (ht:fn.resultTypes = #[tb]) (hb:Tryz.prog.underlying tb=some .bool)
  (hs:∀ ds:List (DataW H),ds.length=fn.params.toList.length→(s.fn H (ds++[])).results=[.lit (.bool true)]∧(s.fn H (ds++[])).args=ds∧(s.fn H (ds++[])).vars=[])
  (hc:∀ xs,ArgsT E fn.params.toList xs→(∀ (j t e:Nat) (l:List DV),fn.params.toList[j]? = some t→Tryz.prog.underlying t=some (.slice e)→xs[j]? = some (.sl l)→l.length≤1048576)→PCalls E fid xs (· = .bool true)) :
  Calls Tryz.prog fid args W fun e W'=>∃ v,e = .returned v∧s.post enc Tryz.prog fn false true false false W args v W':=by
 have hW':=hW;obtain ⟨p,q,hA,hV,rfl,hfz,hnd⟩:=hW;have hval':∀ (j:Nat) t v,fn.params.toList[j]? = some t→args.toList[j]? = some v→Value.okWide E.P W .any base t v:=fun j t v ht hv=>hval j t v (by rwa [Array.getElem?_toList] at ht) (by rwa [Array.getElem?_toList] at hv);obtain ⟨xs,h1,h2⟩:=args_has E_ok hok hval' hA;obtain ⟨s1,s2,s3⟩:=hs ds (trodAll_len hA);have hgs:gs=[]:=by
  rw [hv] at hV;exact (trodVars_none hV).1
 have hbulk:Rows.uptoBulkAll ds≤1048576:=by
  have:=of_decide_eq_true hk
  rwa [hgs,List.append_nil] at this
 have hcall:=hc xs h2 (fun j t e l a b c=>Nat.le_trans (args_bulk hA h1 j t e l a b c) hbulk);unfold PCalls at hcall;have:=hcall.2 (fun _=>False) W args.toList (fun _ h=>h.elim) hG h1;rw [Array.toArray_toList] at this;refine this.mono fun e W' hpost=>?_;obtain ⟨v,r,rfl,rfl,hvd,hx⟩:=hpost;cases hvd;exact ⟨_,rfl,law_post Tryz.laidOut hr hv ht hb s1 s2 s3 hW' hx⟩
end Go.Proofs.YthikfaephakahaaGreatDoor

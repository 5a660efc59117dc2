/- Contracts by the engine: package steps: Owners; lists of numbers. Conditions: lengths that Go allows. -/
import Derived.Test.YtajnanldmhpeaaaGreatDoorZP82
import Derived.Test.YtajnanldmhpeaaaGreatDoorZSrtC
import Derived.Test.YtajnanldmhpeaaaGreatDoorZShelf
import Derived.Shelf.SortM.SortNone
set_option linter.unusedVariables false
set_option linter.unusedSimpArgs false
namespace Go.Proofs.YtajnanldmhpeaaaGreatDoor.P
open Go Go.Eng Go.Sort
set_option maxRecDepth 100000
set_option maxHeartbeats 4000000
theorem sortInts:SortsI Tryz.prog 94:=fun blk cap zs w hH hblk hsz=>AnyM.slices_Sort_int Tryz.sortInt blk 0 cap zs w hH hblk hsz
theorem sortInt_a (l:List Int) (hl:l≠[]) (hlen:l.length<4611686018427387904) :
  ACalls E 94 [.arr 0 (3,1) (l.map (DV.int .i64))] [.own 0 0] (fun a b=>a = .tup []∧b=[.arr 0 (3,1) ((sortI l).map (DV.int .i64))]) :=
 sortI_a sortInts ⟨_,Tryz.func94,rfl,by decide⟩ l hl hlen
theorem compactInts:CompactsI Tryz.prog 95:=fun blk cap zs w hH hsz hcap=>Any.slices_Compact_int Tryz.compactInt blk 0 cap zs w hH hsz hcap
theorem compactInt_a (l:List Int) (hl:l≠[]) (hlen:l.length<4611686018427387904) :
  ACalls E 95 [.arr 0 (3,1) (l.map (DV.int .i64))] [.own 0 0] (fun a b=>a = .own 0 1∧b=[.arr 1 (3,1) ((Lib.compact l).map (DV.int .i64))]) :=
 compactI_a compactInts ⟨_,Tryz.func95,rfl,by decide⟩ l hl hlen
theorem one_nil {bar:Nat→Prop} {w:World} {vs:List Value} (h:VLD bar w [.nilsl] vs):vs=[.slice none 0 0]:=by
 obtain ⟨hl,hv⟩:=h;obtain ⟨v,rfl⟩:∃ v,vs=[v]:=by
  match vs,hl with
  | [v],_=>exact ⟨v,rfl⟩
 have:=hv 0 .nilsl v rfl rfl;cases this;rfl
theorem sortNil_p:PCalls E 94 [.nilsl] (· = .tup []):=by
 unfold PCalls;refine ⟨⟨_,Tryz.func94,rfl,by decide⟩,fun bar w vs _ _ hv=>?_⟩;obtain rfl:=one_nil hv;exact (AnyM.slices_Sort_int_none Tryz.sortInt none 0 w).mono fun e w' ⟨h1,h2⟩=>⟨_,_,h1,rfl,.tup [] #[] rfl (fun j x v hx=>by simp at hx),by rw [h2]; exact Ext.refl w⟩
theorem compactNil_p:PCalls E 95 [.nilsl] (· = .nilsl):=by
 unfold PCalls;refine ⟨⟨_,Tryz.func95,rfl,by decide⟩,fun bar w vs _ _ hv=>?_⟩;obtain rfl:=one_nil hv;exact (Any.slices_Compact_int_empty Tryz.compactInt none 0 w).mono fun e w' ⟨h1,h2⟩=>⟨_,_,h1,rfl,.nilsl,by rw [h2]; exact Ext.refl w⟩
def ownerOf (h:History) (n:Int):Int:=match h.hosts[n.toNat]? with | some x=>x.owner | none=>0
def ownersL (h:History) (s:Stage):List Int:=Lib.compact (sortI (s.puts.map fun p=>ownerOf h p.host))
theorem owner_at {h:History} {p:Placed} (h1:0≤p.host) (h2:p.host<h.hosts.length):∃ x,h.hosts[p.host.toNat]? = some x∧ownerOf h p.host=x.owner:=by
 obtain ⟨x,hx⟩:=some_of_lt (l:=h.hosts) (k:=p.host.toNat) (by omega);exact ⟨x,hx,by rw [ownerOf,hx]⟩
theorem validS_one {h:History} {s:Step} (hv:validS h [s]=true):histB h=true∧0≤s.time∧s.time<h.fin∧stageB h.hosts.length s.stage=true:=by
 obtain ⟨v1,v2,v3,v4⟩:=validS_iff.1 hv;have:=v3 s (List.mem_singleton.2 rfl);exact ⟨v1,this.1,this.2.1,this.2.2⟩
theorem owners_raw (h:History) (s:Step) (hf:h.Fits) (hk1:h.copies.length≤1000000) (hs:Steps.Fits [s]):PCalls E 40 [h.enc,s.enc] (· = if validS h [s] then .tup [if s.stage.puts=[] then .nilsl else .sl ((ownersL h s.stage).map (.int .i64)),.int .i64 0] else .tup [.nilsl,.int .i64 1]):=by
 have c1:=svalid_p h [s] hf hk1 hs;cases hv:validS h [s]
 ·rw [hv] at c1;rw [if_neg (by simp)];obtain ⟨hosts,copies,anchor,hints,drift,fin⟩:=h;obtain ⟨tm,⟨puts⟩⟩:=s;show PCalls E _ [DV.agg [.sl (hosts.map Host.enc),.sl (copies.map Copy.enc),.str anchor.name,.int .i64 anchor.type,.int .i64 anchor.life,.sl (anchor.data.map Datum.enc),.sl (hints.map (.int .i64)),.int .i64 drift,.int .i64 fin],DV.agg [.int .i64 tm,.sl (puts.map Placed.enc)]] _;refine eP Tryz.func40 ?_;refine callP_eq (c1) ?_;refine gO Tryz.func40 ?_;refine caseB_true ?_;refine gO Tryz.func40 ?_
  with_reducible rfl
 ·rw [hv] at c1;rw [if_pos rfl];obtain ⟨v1,v2,v3,v4⟩:=validS_one hv;obtain ⟨s1,s2,s3⟩:=stageB_iff.1 v4;have own:=fun p (hp:p∈s.stage.puts)=>by
   have:=s2 p hp;simp only [putOK,Bool.and_eq_true,decide_eq_true_eq] at this;exact owner_at (h:=h) this.1.1 this.1.2
  have hpos:∀ p∈s.stage.puts,0≤p.host:=fun p hp=>by
   have:=s2 p hp;simp only [putOK,Bool.and_eq_true,decide_eq_true_eq] at this;exact this.1.1
  unfold ownersL;generalize hO:ownerOf h=O at *;clear hv v1 v2 v3 v4 s2 s3;obtain ⟨hosts,copies,anchor,hints,drift,fin⟩:=h;obtain ⟨tm,⟨puts⟩⟩:=s;simp only at own s1 hpos;show PCalls E _ [DV.agg [.sl (hosts.map Host.enc),.sl (copies.map Copy.enc),.str anchor.name,.int .i64 anchor.type,.int .i64 anchor.life,.sl (anchor.data.map Datum.enc),.sl (hints.map (.int .i64)),.int .i64 drift,.int .i64 fin],DV.agg [.int .i64 tm,.sl (puts.map Placed.enc)]] (· = DV.tup [if puts=[] then .nilsl else .sl ((Lib.compact (sortI (puts.map fun p=>O p.host))).map (.int .i64)),.int .i64 0]);by_cases hn:puts=[]
  ·subst hn;rw [if_pos rfl];refine eP Tryz.func40 ?_;refine callP_eq (c1) ?_;refine gO Tryz.func40 ?_;refine caseB_false ?_;refine gO Tryz.func40 ?_;refine AWL.unroll ?_;refine AWL.run E_ok Tryz.func40 2000 ?_;(conv=>whnf);refine caseB_no (by decide) ?_;refine gO Tryz.func40 ?_;refine callP_eq (sortNil_p) ?_;refine gO Tryz.func40 ?_;refine callP_eq (compactNil_p) ?_;refine gO Tryz.func40 ?_
   with_reducible rfl
  rw [if_neg hn];refine eP Tryz.func40 ?_;refine callP_eq (c1) ?_;refine gO Tryz.func40 ?_;refine caseB_false ?_;refine gO Tryz.func40 ?_;refine AWL.adopt 6 (3,1) (by decide) rfl ?_;(conv=>whnf);refine AWL.loop (κ:=Nat) ([6,8]++rg 18 15) (fun k=>[(18,.d (.int .i64 k)),(6,.own 2 1)]) (fun k=>[(2,.arr 1 (3,1) (((puts.map fun p=>O p.host).take k).map (.int .i64)))]) (fun k=>k≤puts.length) (fun k=>puts.length - k) 0 (Nat.zero_le _) ?_ ?_
  ·(conv=>whnf);repeat (first | exact trivial | (refine sI ?_; conv=>whnf))
   refine And.intro rfl ?_;(conv=>whnf);repeat (first | exact trivial | (refine sI ?_; conv=>whnf))
  intro k hk IH;refine AWL.head E_ok Tryz.func40 2000 ?_;(conv=>whnf);refine caseB_split (fun h5=>?_) (fun h5=>?_)
  ·have hlt:k<puts.length:=by simpa using h5
   obtain ⟨p,hp⟩:=some_of_lt hlt;have hp2:(puts.map fun p=>O p.host)[k]? = some (O p.host):=by rw [List.getElem?_map,hp]; rfl
   have hnx:=take_next hp2;obtain ⟨x,hx,hox⟩:=own p (List.mem_of_getElem? hp);have hpp:=hpos p (List.mem_of_getElem? hp);have A1:At1 (hosts.map Host.enc) p.host x.enc:=by
    have:=at_map (f:=Host.enc) hx
    rwa [Int.toNat_of_nonneg hpp] at this
   refine gO Tryz.func40 ?_;refine elemP_at (e:=p.enc) (at_map hp) rfl ?_;refine gO Tryz.func40 ?_;refine elemP_at A1 rfl ?_;refine gO Tryz.func40 ?_;refine need_intro ⟨by simp; omega,by simp [DV.cells]⟩ ?_;refine gO Tryz.func40 ?_;refine AWL.back (IH (k+1) (by omega) (by omega)) ?_;rw [hnx,hox];(conv=>whnf);repeat (first | exact trivial | (refine sI ?_; conv=>whnf))
   refine And.intro (by simp) ?_;(conv=>whnf);repeat (first | exact trivial | (refine sI ?_; conv=>whnf))
  ·have hge:puts.length≤k:=by simpa using h5
   rw [List.take_of_length_le (by simpa using hge)];have hne:(puts.map fun p=>O p.host)≠[]:=by simpa using hn
   have hsl:(sortI (puts.map fun p=>O p.host)).length=puts.length:=by rw [(sortI_perm _).length_eq,List.length_map]
   have hsne:sortI (puts.map fun p=>O p.host)≠[]:=fun e=>by rw [e] at hsl; simp at hsl; exact hn (List.eq_nil_of_length_eq_zero hsl.symm)
   clear IH;refine gO Tryz.func40 ?_
   with_reducible refine callS_eq (sortInt_a (puts.map fun p=>O p.host) hne (by simp; omega)) ?_
   refine gO Tryz.func40 ?_
   with_reducible refine callS_eq (compactInt_a (sortI (puts.map fun p=>O p.host)) hsne (by omega)) ?_
   refine gO Tryz.func40 ?_
   with_reducible rfl
def ownersR (h:History) (s:Step):List Int:=if validS h [s] then ownersL h s.stage else []
def ownersN (h:History) (s:Step):Int:=if validS h [s] then 0 else 1
theorem owners_p (h:History) (s:Step) (hf:h.Fits) (hk1:h.copies.length≤1000000) (hs:Steps.Fits [s]):PCalls E 40 [h.enc,s.enc] (· = .tup [.sl ((ownersR h s).map (.int .i64)),.int .i64 (ownersN h s)]):=by
 have H:=owners_raw h s hf hk1 hs;unfold ownersR ownersN;cases hv:validS h [s]
 ·rw [hv] at H;exact PCalls.norm (H.mono fun r e=>by rw [e]; rfl)
 ·rw [hv] at H;by_cases hn:s.stage.puts=[]
  ·have e0:ownersL h s.stage=[]:=by rw [ownersL,hn,List.map_nil,show sortI []=[] by simp [sortI]]; rfl
   refine PCalls.norm (H.mono fun r e=>?_);rw [e,if_pos rfl,if_pos hn,if_pos rfl,e0];rfl
  ·refine H.mono fun r e=>?_;rw [e,if_pos rfl,if_neg hn,if_pos rfl,if_pos rfl]
end Go.Proofs.YtajnanldmhpeaaaGreatDoor.P

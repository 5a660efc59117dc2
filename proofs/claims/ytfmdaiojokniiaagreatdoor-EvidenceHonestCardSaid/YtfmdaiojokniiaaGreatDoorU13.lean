/- Lemmas of mine. Conditions: as stated. -/
import Derived.Test.YtfmdaiojokniiaaGreatDoorU12
set_option linter.unusedVariables false
set_option linter.unusedSimpArgs false
section
namespace Go.Proofs.YtfmdaiojokniiaaGreatDoor.P
open Go Go.ay
set_option maxRecDepth 100000
set_option maxHeartbeats 4000000
theorem WC(c:aY):aq E 59 [c.enc] (· = .str c.aw.aj):=by
 refine eP Tryz.func59 ?_
 with_reducible rfl
def vx(l:List aY):Bool:=decide (4000<l.length)||decide (500<vt l)
theorem WD(l:List aY)(hl:l.length<=1000000):ar E 60 [] [.d (.sl (l.map aY.enc)),.d (.int .i64 4000),.d (.int .i64 500),.fn (.func 59) [] []] (fun a b=>∃ es,a=.d (.bool (vx l))/\b=[.map es]):=by
 generalize hT:l.map (·.aw.aj)=T;have CZ:T.length=l.length:=by rw[<- hT];simp
 have hlen:=G7 xJ T T.length (Nat.le_refl _);rw[List.take_length]at hlen;have WE:vx l=(decide (4000<l.length)||decide (500<(eC [] T).length)):=by rw[vx,vt,hT]
 rw[WE];refine ar.run ab (fn:=Tryz.f60) Tryz.func60 (body:=Tryz.f60.body.getD .skip) rfl (by decide) 2000 rfl ?_;(conv=>whnf);refine gO F60 ?_;refine gO F60 ?_;refine I.loop (κ:=Nat) ([11]++rg 15 9) (fun k=>[(15,.d (.int .i64 k)),(9,.map 0)]) (fun k=>[(0,.map (ek DV.str (T.take k)))]) (fun k=>k<=l.length) (fun k=>l.length-k) 0 (Nat.zero_le _) ?_ ?_
 ·(conv=>whnf);repeat (first|exact trivial|(refine sI ?_;conv=>whnf))
  refine And.intro rfl ?_;exact sZ
 intro k hk IH;refine I.head ab F60 2000 ?_;(conv=>whnf);refine ai (fun h5=>?_) (fun h5=>?_)
 ·have ah:k<l.length:=by simpa using h5
  obtain⟨c,hc⟩:=aG ah;have G2:T[k]?=some c.aw.aj:=by rw[<- hT];simp[hc]
  have fp:=(oo xJ (T.take k)).1;refine gO F60 ?_;refine aB (e:=c.enc) (aN hc) rfl ?_;refine gO F60 ?_
  with_reducible refine ao (WC c) ?_
  refine gO F60 ?_;refine aV ⟨⟨_,rfl⟩,fp⟩ ?_;refine gO F60 ?_;refine I.back (IH (k+1) (by omega) (by omega)) ?_;rw[G0 G2];exact sZ
 ·have aA:l.length<=k:=by simpa using h5
  rw[List.take_of_length_le (by omega)];refine gO F60 ?_;refine ai (fun h6=>?_) (fun h6=>?_)
  ·refine gO F60 ?_;refine⟨_,?_,rfl⟩;have:4000<l.length:=by simp at h6;omega
   simp[this]
  ·refine gO F60 ?_;refine gO F60 ?_;refine⟨_,?_,rfl⟩;rw[hlen];have h7:decide (4000<l.length)=false:=by simp at h6 ⊢;omega
   rw[h7,Bool.false_or];refine congrArg (fun b=>AV.d (DV.bool b)) ?_;rw[Bool.eq_iff_iff];simp;try omega
end Go.Proofs.YtfmdaiojokniiaaGreatDoor.P
end
section
namespace Go.ay
open Go Go.RowKit
theorem ar.kl{E:Env}{f:FuncId}{H H2:List af}{args:List AV}{r0:AV}(hc:ar E f H args (fun a b=>a=r0/\kK H.length [] 0 b=H2))(hk:(FG H.length [] H2&&hY H.length [] r0)=true):ar E f H args (fun a b=>a=r0/\b=H2):=by
 simp only[Bool.and_eq_true]at hk;obtain⟨dA,hv⟩:=hk;unfold ar at hc ⊢;refine⟨hc.1,hc.2.1,fun c vs h1 h2 h3=>(hc.2.2 c vs h1 h2 h3).mono fun e w' ⟨c',r,v,k1,k2,⟨k3,zG⟩,k4,k5,k6⟩=>?_⟩;subst k3;have a1:=k5.ga (n:=H.length) (B:=[]) (by rw[zG];exact dA);have a2:=B4 (n:=H.length) (B:=[]) hv k4;obtain⟨b1,b2⟩:=a1.Ky (az:=c'.az) (fun b hb => .inl hb);refine⟨⟨(c'.ga H.length []).own,(c'.ga H.length []).heap,c'.az,c'.w⟩,r,v,k1,k2,⟨rfl,by show kK _ _ 0 c'.heap=H2;rw[zG]⟩,b2 _ _ a2,b1,?_⟩;have hid:∀ i,i<H.length->dG H.length [] i=false:=fun i hi=>by
  have:Nat.ble H.length i=false:=by
   cases q:Nat.ble H.length i
   ·rfl
   ·have:=Nat.le_of_ble_eq_true q;omega
  simp only[dG,this];rfl
 exact{
  az:=k6.az
  os:=k6.os
  tape:=k6.tape
  output:=k6.output
  size:=k6.size
  keep:=k6.keep
  dy:=fun i b n hi hb=>k6.dy i b n (uF hi).2 hb
  boxes:=fun i bx hi=>by
   have ah:i<H.length:=by rw[<- h1];exact aQ hi
   have e1:(kK H.length [] 0 c'.heap)[i]?=c'.heap[i]? := xj 0 i c'.heap (by rw[Nat.zero_add];exact hid i ah)
   exact uH (c:=c') (fun x hx=>e1.trans hx) (fun x _=>zD (hid i ah)) (k6.boxes i bx hi) }
section
variable {E:Env} {s:List AV} {h:List af} {c:Cx} {G:List (Nat × DV)}
theorem YQ(hE:E.OK){t e len:Nat}{i ei:br}(hi:E.T[t]?=some i)(bT:E.T[e]?=some ei)(hk:i.k=.slice e){parts:Array (Nat × Operand)}{ps:List (Nat × AV)}(gM:yl E.G s parts.toList ps)
  {z:DV} (hz:ei.zero=[z]) (bP:ei.size=1) (hlen:0<len) (Bd:len<=16777216) {l:List AV} (hl:l.length=len)
  (h4:∀ (c:Cx) (vs us:List Value),VL c (List.replicate len (AV.d z)) vs->VL c (ps.map (·.2)) us->∃ vs':List Value,Instr.fill (fun i=>some (i*1,1)) vs.toArray ((ps.map (·.1)).zip us)=some vs'.toArray/\VL c l vs') :
  bw E (.buildSlice t len parts) s h (.own h.length 0) (h++[.cells l]):=fun o c ac e1 e2 e3 e4=>by
 subst e2;have cQ:0<ei.size:=by omega
 obtain⟨ti,zv,g1,g2,g3,g4⟩:=zeroOf (hE.types e ei bT) (by rw[hz,bP];rfl) cQ;obtain⟨zs,yn,ky⟩:=g4 c;obtain⟨p1,p2⟩:=gM c ac e3 e4;have l3:zs.length=1:=by rw[<- ky.1,hz];rfl
 have AL:ti.size=1:=by omega
 have yo:VL c (List.replicate len (AV.d z)) ((Array.range (len*ti.size)).map (zv.cells[· % zv.cells.size]!)).toList:=by
  refine⟨by simp[AL],fun j x v hx hv=>?_⟩;rw[List.getElem?_replicate]at hx;split at hx
  ·rename_i hj;cases hx;have eD:v=zs[0]'(by omega):=by
    simp[AL,hj,yn,l3]at hv;rw[<- hv];simp[l3,Nat.mod_one]
   rw[eD];exact ky.2 0 _ _ (by rw[hz];rfl) (by simp[l3])
  ·cases hx
 obtain⟨vs',f1,f2⟩:=h4 c _ _ yo p2;obtain⟨wk,d,q1,q2,q3,-⟩:=cD (hE.types t i hi);obtain rfl:=lj (hk.symm.trans q3);have eq:(parts.map fun(i,x)=>(i,ac.eval x)).toList=(ps.map (·.1)).zip (parts.toList.map fun p=>ac.eval p.2):=by
  rw[p1,Array.toList_map];generalize parts.toList=q
  induction q with
  |nil=>rfl
  |cons a q ih=>simp only[List.map_cons,List.zip_cons_cons,ih]
 have tR:Instr.fill (fun i=>some (i*ti.size,ti.size)) ((Array.range (len*ti.size)).map (zv.cells[· % zv.cells.size]!)) (parts.map fun(i,x)=>(i,ac.eval x)).toList=some vs'.toArray:=by
  rw[eq,<- f1,Array.toArray_toList,AL]
 have cI:=run_buildSlice (P:=E.P) c.w t e len (parts.map fun(i,x)=>(i,ac.eval x)) vs'.toArray ti zv q2 g1 g2 (by rw[AL];omega) (by rw[AL];omega) tR;obtain⟨w1,w2,w3⟩:=e3.DS f2 e;refine⟨_,.slice (some ⟨c.w.heap.size,0,none⟩) len len,.inl (by simp only[execOp,e1,Sem.run_bind,cI,Result.andThen_ok,Sem.run_pure];rfl),rfl,w1,?_,w2⟩;exact .mM _ _ l c.w.heap.size 0 len (by simp[Cx.add]) (by simp[Cx.add]) hl
theorem I.YR(hE:E.OK){ag:FuncId}{R:cF}{lits:List Nat}{ops:Array Oper}{o:Oper}{l:List Oper}{r:List aP}{t e len:Nat}{i ei:br}{parts:Array (Nat × Operand)}(hg:o.guard=none)(cm:o.op=.buildSlice t len parts)
  (hi:E.T[t]?=some i) (hk:i.k=.slice e) (bT:E.T[e]?=some ei) {z:DV} (hz:ei.zero=[z]) (bP:ei.size=1) (hlen:Nat.blt 0 len=true) (Bd:Nat.ble len 16777216=true)
  (H:tM E.G s parts.toList False fun ps=>vZ (fun i=>some (i*1,1)) ps (List.replicate len (AV.d z)) False fun cs=>match Nat.beq cs.length len with
   |true=>cd s o.dst (.own h.length 0) fun s'=>I E ag R lits (.bu ops l::r) s' (h++[.cells cs])
   |false=>False):I E ag R lits (.bu ops (o::l)::r) s h:=by
 rcases ym H with h'|⟨ps,gM,H⟩
 ·exact h'.elim
 rcases Bb H with h'|⟨cs,H,hf⟩
 ·exact h'.elim
 split at H
 ·rename_i q;have ho:=YQ (h:=h) hE hi bT hk gM hz bP (iA hlen) (Nat.le_of_ble_eq_true Bd) (Nat.eq_of_beq_eq_true q) hf;rw[<- cm]at ho;rw[dP]at H;exact .of (.op (fS hg) ho H.to)
 ·exact H.elim
theorem Of{b g:Nat}{cs:List AV}(hb:c.heap[b]?=some (.cells cs)){v:Value}(hv:VR c (.own b g) v):∃ blk cap,c.own b=some (blk,cap)/\v=.slice (some ⟨blk,0,none⟩) cs.length cs.length:=by
 cases hv with
 |own _ _ _ l' blk cap k1 k2=>rw[hb]at k1;cases k1
 |iu _ _ _ k1 k2=>rw[hb]at k1;cases k1
 |kv _ _ g' _ _ _ k1 k2 _=>rw[hb]at k1;cases k1
 |jE _ _ _ k1 _=>rw[hb]at k1;cases k1
 |mM _ _ _ blk cap n k1 k2 k3=>rw[hb]at k1;cases k1;subst k3;exact⟨blk,cap,k2,rfl⟩
theorem I.YS(hE:E.OK){ag:FuncId}{R:cF}{lits:List Nat}{ops:Array Oper}{o:Oper}{l:List Oper}{r:List aP}{t e b g:Nat}{i:br}{x:Operand}{args:Array Operand}{ts:Array TypeId}{cs:List AV}(hg:o.guard=none)
  (cm:o.op=.call { callee := .builtin .len,args:=args,argTypes:=ts }) (hx:args.toList[0]?=some x) (ht:ts.toList[0]?=some t) (hi:E.T[t]?=some i) (hk:i.k=.slice e) (hv:aZ E.G s x (.own b g)) (hb:h[b]?=some (.cells cs))
  (H:cd s o.dst (.d (.int .i64 cs.length)) fun s'=>I E ag R lits (.bu ops l::r) s' h):I E ag R lits (.bu ops (o::l)::r) s h:=by
 have ho:bw E o.op s h (.d (.int .i64 cs.length)) h:=by
  rw[cm];refine .quiet fun o c ac h1 h2 h3 h4=>?_;subst h2;obtain⟨blk,cap,-,q⟩:=Of hb (hv c ac h3 h4);exact⟨_,wg h1 hx ht (hE.types t i hi) q (.inl ⟨e,_,_,hk,rfl⟩),.d _ _ (.int _ _)⟩
 rw[dP]at H;exact .of (.op (fS hg) ho H.to)
theorem I.p9(hE:E.OK){ag:FuncId}{R:cF}{lits:List Nat}{ops:Array Oper}{o:Oper}{l:List Oper}{r:List aP}{t e b g n:Nat}{ti ei:br}{x y:Operand}{cs:List AV}{j:IntKind}(hg:o.guard=none)
  (cm:o.op=.indexAddr t x y) (hi:E.T[t]?=some ti) (hk:ti.k=.slice e) (bT:E.T[e]?=some ei) (bP:ei.size=1) (hv:aZ E.G s x (.own b g)) (hy:aZ E.G s y (.d (.int j n))) (hb:h[b]?=some (.cells cs)) (hn:n<cs.length)
  (H:cd s o.dst (.ptr b n) fun s'=>I E ag R lits (.bu ops l::r) s' h):I E ag R lits (.bu ops (o::l)::r) s h:=by
 have ho:bw E o.op s h (.ptr b n) h:=by
  rw[cm];refine .quiet fun o c ac h1 h2 h3 h4=>?_;subst h2;obtain⟨blk,cap,q1,q2⟩:=Of hb (hv c ac h3 h4);refine⟨_,yC h1 (v := .pointer (some ⟨blk,0+(n:Int).toNat*ei.size,none⟩)) ?_,?_⟩
  ·rw[q2,dW (hy c ac h3 h4)];exact Ek (hE.types t ti hi) (hE.types e ei bT) hk (by omega) (by omega)
  ·rw[bP]
   simpa using VR.ptr (c:=c) b n cs blk cap hb q1
 rw[dP]at H;exact .of (.op (fS hg) ho H.to)
end
end Go.ay
end

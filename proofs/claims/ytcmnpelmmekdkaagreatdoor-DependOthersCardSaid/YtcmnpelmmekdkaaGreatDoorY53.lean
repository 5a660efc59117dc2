/- Several texts of mine, one behind the other. Conditions: as each says. -/
import Derived.Test.YtcmnpelmmekdkaaGreatDoorY49
set_option linter.unusedVariables false
set_option linter.unusedSimpArgs false
section
namespace Go.Proofs.YtcmnpelmmekdkaaGreatDoor.P
open Go Go.ax
set_option maxRecDepth 100000
def mo (zs:List Text) (l:List aB):List aB:=(l.filter fun p=>decide (p.ay.ab∈zs)).reverse
theorem D1 {zs:List Text} {l:List aB} {p:aB}:p∈mo zs l↔p∈l∧p.ay.ab∈zs:=by
 simp [mo]
def iz (zs:List Text) (w:ca):ca:=⟨w.cd,mo zs w.aq,w.anchor,w.hints⟩
theorem Q0 {zs:List Text} {w:ca} (h:dn w=true):dn (iz zs w)=true:=by
 obtain ⟨h1,h2,h3⟩:=AL.1 h;obtain ⟨p1,p2,p3,p4⟩:=AK.1 h2;refine AL.2 ⟨h1,AK.2 ⟨?_,fun p hp=>p2 p (D1.1 hp).1,?_,?_⟩,h3⟩
 ·have:(mo zs w.aq).length≤w.aq.length:=by
   unfold mo;rw [List.length_reverse];exact List.length_filter_le ..
  show (mo zs w.aq).length≤4000;omega
 ·show ((mo zs w.aq).map aB.spot).Nodup;refine ((List.reverse_perm _).map aB.spot).nodup_iff.2 ?_;exact p3.sublist (List.filter_sublist.map _)
 ·refine Nat.le_trans ?_ p4;refine s4 (As List.nodup_nil) fun x hx=>?_;rw [vg] at hx ⊢;simp only [List.not_mem_nil,false_or,List.mem_map] at hx ⊢;obtain ⟨p,hp,rfl⟩:=hx;exact ⟨p,(D1.1 hp).1,rfl⟩
theorem abU {l:List aB} (h:(l.map aB.spot).Nodup) {p q:aB} (hp:p∈l) (hq:q∈l) (ha:p.ay.ab=q.ay.ab) (hh:p.host=q.host):p=q:=by
 obtain ⟨i,hi⟩:=List.getElem?_of_mem hp;obtain ⟨j,hj⟩:=List.getElem?_of_mem hq;have e:p.spot=q.spot:=by simp [aB.spot,ha,hh]
 have:i=j:=Iu h (by rw [List.getElem?_map,hi]; rfl) (by rw [List.getElem?_map,hj,e]; rfl);subst this;rw [hi] at hj;cases hj;rfl
theorem Q1 {zs:List Text} {w:ca} (h:dn w=true) {z:Text} (hz:z∈zs):dz (iz zs w).aq z=dz w.aq z:=by
 obtain ⟨h1,h2,h3⟩:=AL.1 h;obtain ⟨p1,p2,p3,p4⟩:=AK.1 h2;refine YH (fun p hp q hq e1 e2 e3=>abU p3 hp hq (e1.trans e2.symm) e3) fun p hp=>?_;show p∈w.aq↔p∈mo zs w.aq;rw [D1];exact ⟨fun h=>⟨h,by rw [hp]; exact hz⟩,fun h=>h.1⟩
theorem abV {w:ca} {s:Text} (h:dn w=true):dM (iz (cB w.aq s) w).aq s=dM w.aq s:=by
 obtain ⟨H,hl⟩:=mj h;have h':=Q0 (zs:=cB w.aq s) h;obtain ⟨H',wq⟩:=mj h';have B:=lB H s;have B':=lB H' s;have hJ:∀ n∈(dM w.aq s).map bK.name,gz (iz (cB w.aq s) w).aq n=gz w.aq n:=fun n hn=>by
  have:cJ (iz (cB w.aq s) w).aq n 64 [46]=cJ w.aq n 64 [46]:=Pl fun z hz=>Q1 h (lC.2 (B.s6.2 ⟨n,hn,hz⟩));simp only [gz,nW,this]
 have hs:=AH (s:=s) H;have wN:=AH (s:=s) H';have e1:dM (iz (cB w.aq s) w).aq s=kH (gz w.aq) (rH (iz (cB w.aq s) w).aq) [] [⟨s,[],-1,⟨[],0⟩,[]⟩]:=Ph hs B.closed hJ _ _ _ ev.init;have abW:rF (gz (iz (cB w.aq s) w).aq) ((dM w.aq s).map bK.name):=fun n hn x hx=>by
  rw [hJ n hn] at hx;exact B.closed n hn x hx
 have lS:∀ n∈(dM (iz (cB w.aq s) w).aq s).map bK.name,n∈(dM w.aq s).map bK.name:=fun n hn=>by
  obtain ⟨v,hv,rfl⟩:=List.mem_map.1 hn;exact B'.least _ hs abW v (by simpa using hv)
 have eh:rF (gz w.aq) ((dM (iz (cB w.aq s) w).aq s).map bK.name):=fun n hn x hx=>by
  rw [← hJ n (lS n hn)] at hx;exact B'.closed n hn x hx
 have hle:=s4 (by simpa using B'.nodup) lS;have xT:=AG H s;have Qv:=AG H' s;simp only [List.length_map] at hle;rw [e1];refine Pf wN eh _ _ _ _ ev.init ?_ ?_
 ·simp only [List.length_map,List.length_nil,rH]; omega
 ·simp only [List.length_map,List.length_nil,rH]; omega
theorem abX {w:ca} {s:Text} (h:dn w=true):cB (iz (cB w.aq s) w).aq s=cB w.aq s:=by
 unfold cB;rw [show dM (iz (nV (lt:=jc) [] (fL (dM w.aq s))) w).aq s=dM w.aq s from abV h]
theorem Q2 {w:ca} {s:Text} (h:dn w=true):ix (iz (cB w.aq s) w).aq 1 9 [] s=ix w.aq 1 9 [] s:=by
 obtain ⟨H,hl⟩:=mj h;exact Pp (lB H s) (fun z hz=>Q1 h (lC.2 hz)) 9 [] s (AH H)
theorem Q3 {l:List aB} {t:Int}:∀ {n:Nat} {kept:List Signed} {s:Text},∀ x∈(ix l t n kept s).1.af,x∈kept∨∃ p∈l,x∈p.ay.af
 | 0,kept,s=>fun x hx=>by simp [ix] at hx
 |n+1,kept,s=>fun x hx=>by
  rw [ix] at hx;cases e:fB l ⟨s,t⟩ 64 [46] with
  |none=>rw [e] at hx; simp at hx
  |some a =>
   rw [e] at hx;obtain ⟨p,hp,ha,-⟩:=DH e;have lS:∀ y∈a.af,y∈p.ay.af:=fun y hy=>by rw [ha] at hy; exact Ik hy
   simp only at hx;split at hx
   ·rcases Q3 x hx with h | h
    ·rcases List.mem_append.1 h with h | h
     ·exact .inl h
     ·exact .inr ⟨p,hp,lS x (List.mem_of_mem_take h)⟩
    ·exact .inr h
   ·rcases List.mem_append.1 hx with h | h
    ·exact .inl h
    ·exact .inr ⟨p,hp,lS x h⟩
theorem Q4 {l:List aB} {t:Int}:∀ {n:Nat} {kept:List Signed} {s:Text},(ix l t n kept s).1.af.length≤kept.length+n*100000
 | 0,kept,s=>by simp [ix]
 |n+1,kept,s=>by
  rw [ix];cases e:fB l ⟨s,t⟩ 64 [46] with
  |none=>simp
  |some a =>
   have hl:=PR e;simp only;split
   ·have h:=Q4 (l:=l) (t:=t) (n:=n) (kept:=kept++a.af.take 1) (s:=vk a);simp only [List.length_append,List.length_take] at h;omega
   ·simp; omega
end Go.Proofs.YtcmnpelmmekdkaaGreatDoor.P
end
section
namespace Go.Proofs.YtcmnpelmmekdkaaGreatDoor.P
open Go Go.ax
set_option maxRecDepth 100000
set_option maxHeartbeats 4000000
def oZ (zs:List Text) (l:List aB) (k:Nat):List aB:=mo zs (l.drop k)
theorem abY {zs:List Text} {l:List aB} {k:Nat} {p:aB} (h:l[k]? = some p):oZ zs l k=if p.ay.ab∈zs then oZ zs l (k+1)++[p] else oZ zs l (k+1):=by
 rw [oZ,oZ,Pd h,mo,mo];by_cases hp:p.ay.ab∈zs <;> simp [hp]
theorem abZ {zs:List Text} {l:List aB} {k:Nat}:(oZ zs l k).length≤l.length:=by
 have h1:=List.length_filter_le (fun p:aB=>decide (p.ay.ab∈zs)) (l.drop k);have h2:(l.drop k).length≤l.length:=by simp
 rw [oZ,mo,List.length_reverse];omega
theorem ab0 (w:ca) (s:Text) (hg:w.Good) (hs:s.length≤maxLen):aA E 7 [w.enc,.str s] (· = .bool true):=by
 have c0:=DX;have c1:=DY w s hg hs;cases h0:((p7 w&&dn w)&&Nm.valid s)
 ·rw [h0] at c1;refine eP Tryz.func7 ?_;refine ar (c0) ?_;refine gO Tryz.func7 ?_;refine ar (c1) ?_;refine gO Tryz.func7 ?_;repeat' (first | with_reducible refine cY ?_ | with_reducible refine cN ?_ | with_reducible refine aw (fun _=>?_) (fun _=>?_) | refine gA Tryz.func7 ?_ | refine gB ?_ | refine gC ?_ | with_reducible rfl)
 rw [h0] at c1;have oY:=h0;simp only [Bool.and_eq_true] at oY;obtain ⟨⟨h1,h2⟩,h3⟩:=oY;obtain ⟨hf,hk,hh,gG⟩:=A7 hg h1;have hv:(dn w&&Nm.valid s)=true:=by rw [h2,h3]; rfl
 obtain ⟨H,hl⟩:=mj h2;have pF:=Q0 (zs:=cB w.aq s) h2;have qj:(iz (cB w.aq s) w).Fits:=⟨hf.cd,hf.anchor,hf.hints,fun p hp=>hf.aq p (D1.1 hp).1⟩;have hq:fp ⟨s,1⟩=true:=by simp [fp,h3]
 have d1:=xX w s hf hs;have hZ:ke w s=cB w.aq s:=if_pos hv;have hn:kL w s=0:=if_pos hv;have mi:=DZ (s:=s) hk;rw [hn,hZ] at d1;rw [hZ] at mi;have d2:=PS w ⟨s,1⟩ hf hs;have d3:=PS (iz (cB w.aq s) w) ⟨s,1⟩ qj hs;have e3a:mY (iz (cB w.aq s) w) ⟨s,1⟩=mY w ⟨s,1⟩:=by
  unfold mY;rw [h2,pF,hq,Q2 h2]
 have e3n:rK (iz (cB w.aq s) w) ⟨s,1⟩=rK w ⟨s,1⟩:=by
  unfold rK;rw [h2,pF,hq,Q2 h2]
 rw [e3a,e3n] at d3;have d4:=xX (iz (cB w.aq s) w) s qj hs;have e4:ke (iz (cB w.aq s) w) s=cB w.aq s:=by
  rw [ke,if_pos (by rw [pF,h3]; rfl),abX h2]
 have e4n:kL (iz (cB w.aq s) w) s=0:=if_pos (by rw [pF,h3]; rfl);rw [e4,e4n] at d4
 have d5:=YD (mY w ⟨s,1⟩) (mY w ⟨s,1⟩) (by
  unfold mY;split
  ·have:=Q4 (l:=w.aq) (t:=1) (n:=9) (kept:=[]) (s:=s);simp at this ⊢; omega
  ·simp) (fun x hx=>by
  unfold mY at hx;split at hx
  ·rcases Q3 x hx with h | ⟨p,hp,h⟩
   ·simp at h
   ·exact (gG p hp).2.2.each x h
  ·simp at hx)
 have d6:=H9 (cB w.aq s) (cB w.aq s) mi;rw [decide_eq_true rfl] at d5 d6;have ab4:(iz (cB w.aq s) w)=⟨w.cd,mo (cB w.aq s) w.aq,w.anchor,w.hints⟩:=rfl;rw [ab4] at d3 d4;generalize mY w ⟨s,1⟩=a at *;generalize rK w ⟨s,1⟩=f at *;generalize cB w.aq s=zs at *;refine eP Tryz.func7 ?_;refine ar (c0) ?_;refine gO Tryz.func7 ?_;refine ar (c1) ?_;refine gO Tryz.func7 ?_;refine ba ?_;refine gO Tryz.func7 ?_;refine ar (d1) ?_;refine gO Tryz.func7 ?_;refine aI (by decide) ?_;refine gO Tryz.func7 ?_;refine aa.rz 1 1 (52,3) (by decide) rfl rfl ?_;(conv=>whnf);refine aa.loop (κ:=Nat) ([9]++rg 37 23) (fun k=>[(9,.d (.int .i64 ((k:Int) - 1)))]) (fun k=>[(1,.cells [.d (.sl (w.cd.map Host.enc)),.own 2 1,.d (.str w.anchor.name),.d (.int .i64 w.anchor.type),.d (.int .i64 w.anchor.gy),.d (.sl (w.anchor.data.map Datum.enc)),.d (.sl (w.hints.map (.int .i64)))]),(2,.arr 1 (52,3) ((oZ zs w.aq k).map aB.enc))]) (fun k=>k≤w.aq.length) (fun k=>k) w.aq.length (Nat.le_refl _) ?_ ?_
 ·(conv=>whnf);repeat (first | exact trivial | (refine sI ?_; conv=>whnf))
  refine And.intro (by rw [oZ,List.drop_length]; rfl) ?_;(conv=>whnf);repeat (first | exact trivial | (refine sI ?_; conv=>whnf))
  refine And.intro (congrArg (DV.int .i64) ((wrap64 (by simp <;> omega) (by simp <;> omega)).trans (by simp))) ?_;exact sZ
 intro k lj IH;refine aa.head aj Tryz.func7 2000 ?_;(conv=>whnf);refine aw (fun h5=>?_) (fun h5=>?_)
 ·have h5:=of_decide_eq_true h5;obtain ⟨k,rfl⟩:∃ j,k=j+1:=⟨k - 1,by omega⟩;obtain ⟨x,hx⟩:=aY (l:=w.aq) (k:=k) (by omega);have bS:=abY (zs:=zs) hx;have ez:=abZ (zs:=zs) (l:=w.aq) (k:=k+1);have A1:nK (w.aq.map aB.enc) (((k+1:Nat):Int) - 1) x.enc:=by
   rw [show (((k+1:Nat):Int) - 1)=(k:Int) by omega];exact a7 hx
  have e1:=AR zs x.ay.ab (by omega);generalize oZ zs w.aq (k+1)=B at bS ez ⊢;refine gO Tryz.func7 ?_;refine aF (e:=x.enc) A1 rfl ?_;refine gO Tryz.func7 ?_;refine ar (e1) ?_;refine gO Tryz.func7 ?_;by_cases hm:x.ay.ab∈zs
  ·rw [if_pos hm] at bS;refine aM (decide_eq_true hm) ?_;refine gO Tryz.func7 ?_;refine aa.P8 aj bW [0,2,3,4,5,6,7,9] (fun h=>h=[xQ w,.cells [.d (.sl (w.cd.map Host.enc)),.own 2 1,.d (.str w.anchor.name),.d (.int .i64 w.anchor.type),.d (.int .i64 w.anchor.gy),.d (.sl (w.anchor.data.map Datum.enc)),.d (.sl (w.hints.map (.int .i64)))],.arr 1 (52,3) (B.map aB.enc)]∨h=[xQ w,.cells [.d (.sl (w.cd.map Host.enc)),.own 2 1,.d (.str w.anchor.name),.d (.int .i64 w.anchor.type),.d (.int .i64 w.anchor.gy),.d (.sl (w.anchor.data.map Datum.enc)),.d (.sl (w.hints.map (.int .i64)))],.arr 2 (52,3) ((B++[x]).map aB.enc)]) (by kernel_rfl) (by kernel_rfl) (.inl rfl) ?_;refine da.float (.ptr 1 1) rfl rfl (fun h' hh=>?_) ?_
   ·rcases hh with rfl | rfl <;> (refine aQ.run aj ?_; (conv=>whnf); exact ⟨rfl,rfl⟩)
   (conv=>whnf);refine da.op (.own 2 1) [xQ w,.cells [.d (.sl (w.cd.map Host.enc)),.own 2 1,.d (.str w.anchor.name),.d (.int .i64 w.anchor.type),.d (.int .i64 w.anchor.gy),.d (.sl (w.anchor.data.map Datum.enc)),.d (.sl (w.hints.map (.int .i64)))],.arr 1 (52,3) (B.map aB.enc)] rfl rfl ?_ (.inr (.inl rfl)) ?_
   ·refine aQ.run aj ?_;(conv=>whnf);exact ⟨rfl,rfl⟩
   (conv=>whnf);refine da.float (.ptr 0 1) rfl rfl (fun h' hh=>?_) ?_
   ·rcases hh with rfl | rfl <;> (refine aQ.run aj ?_; (conv=>whnf); exact ⟨rfl,rfl⟩)
   (conv=>whnf);refine da.float (.d (.sl (w.aq.map aB.enc))) rfl rfl (fun h' hh=>?_) ?_
   ·rcases hh with rfl | rfl <;> (refine aQ.run aj ?_; (conv=>whnf); exact ⟨rfl,rfl⟩)
   (conv=>whnf);refine da.float (.d (.int .i64 (((k+1:Nat):Int) - 1))) rfl rfl (fun h' hh=>?_) ?_
   ·rcases hh with rfl | rfl <;> (refine aQ.run aj ?_; (conv=>whnf); exact ⟨rfl,rfl⟩)
   (conv=>whnf);refine da.float (.b8 x.enc 0) rfl rfl (fun h' hh=>?_) ?_
   ·rcases hh with rfl | rfl <;> (refine aQ.run aj ?_; (conv=>whnf); refine aF (e:=x.enc) A1 rfl ?_; exact ⟨rfl,rfl⟩)
   (conv=>whnf);refine da.float (.d x.enc) rfl rfl (fun h' hh=>?_) ?_
   ·rcases hh with rfl | rfl <;> (refine aQ.run aj ?_; (conv=>whnf); exact ⟨rfl,rfl⟩)
   (conv=>whnf);refine da.float (.d (.sl [x.enc])) rfl rfl (fun h' hh=>?_) ?_
   ·rcases hh with rfl | rfl <;> (refine aQ.run aj ?_; (conv=>whnf); exact ⟨rfl,rfl⟩)
   (conv=>whnf);refine da.op (.own 2 2) [xQ w,.cells [.d (.sl (w.cd.map Host.enc)),.own 2 1,.d (.str w.anchor.name),.d (.int .i64 w.anchor.type),.d (.int .i64 w.anchor.gy),.d (.sl (w.anchor.data.map Datum.enc)),.d (.sl (w.hints.map (.int .i64)))],.arr 2 (52,3) ((B++[x]).map aB.enc)] rfl rfl ?_ (.inr (.inr rfl)) ?_
   ·refine aQ.run aj ?_;(conv=>whnf);refine bQ ⟨by simp; omega,by simp [DV.cells]⟩ ?_;(conv=>whnf);rw [List.map_append];exact ⟨rfl,rfl⟩
   (conv=>whnf);refine da.float (.ptr 1 1) rfl rfl (fun h' hh=>?_) ?_
   ·rcases hh with rfl | rfl <;> (refine aQ.run aj ?_; (conv=>whnf); exact ⟨rfl,rfl⟩)
   (conv=>whnf);refine da.op (.d .undef) [xQ w,.cells [.d (.sl (w.cd.map Host.enc)),.own 2 2,.d (.str w.anchor.name),.d (.int .i64 w.anchor.type),.d (.int .i64 w.anchor.gy),.d (.sl (w.anchor.data.map Datum.enc)),.d (.sl (w.hints.map (.int .i64)))],.arr 2 (52,3) ((B++[x]).map aB.enc)] rfl rfl ?_ (.inl rfl) ?_
   ·refine aQ.run aj ?_;(conv=>whnf);exact ⟨rfl,rfl⟩
   (conv=>whnf);refine da.fin ?_;refine gO Tryz.func7 ?_;refine aa.back (IH k (by omega) (by omega)) ?_;(conv=>whnf);repeat (first | exact trivial | (refine sI ?_; conv=>whnf))
   refine And.intro (by rw [bS]) ?_;exact sZ
  ·rw [if_neg hm] at bS;refine aI (decide_eq_false hm) ?_;refine gO Tryz.func7 ?_;refine aa.back (IH k (by omega) (by omega)) ?_;(conv=>whnf);repeat (first | exact trivial | (refine sI ?_; conv=>whnf))
   refine And.intro (by rw [bS]) ?_;exact sZ
 have h5:=of_decide_eq_false h5;have df:k=0:=by omega
 subst df;(conv=>whnf);refine aa.freeze 2 ?_;have iG:oZ zs w.aq 0=mo zs w.aq:=rfl;rw [iG];refine gO Tryz.func7 ?_;refine ar (d2) ?_;refine gO Tryz.func7 ?_;refine ar (d3) ?_;refine gO Tryz.func7 ?_;refine ar (d4) ?_;refine gO Tryz.func7 ?_;refine bq ?_;refine gO Tryz.func7 ?_;refine aM (by simp) ?_;refine gO Tryz.func7 ?_;refine ar (d5) ?_;refine gO Tryz.func7 ?_;refine bq ?_;refine gO Tryz.func7 ?_;refine aM (by decide) ?_;refine gO Tryz.func7 ?_;refine ar (d6) ?_;refine gO Tryz.func7 ?_
 with_reducible rfl
theorem ab5 (w:ca) (s:Text) (g0:w.Good) (g1:s.length≤maxLen):aA E 7 [w.enc,.str s] (· = .bool true):=ab0 w s g0 g1
end Go.Proofs.YtcmnpelmmekdkaaGreatDoor.P
end

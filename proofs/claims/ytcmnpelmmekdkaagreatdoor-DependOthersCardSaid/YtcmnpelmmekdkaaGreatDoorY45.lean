/- Several texts of mine, one behind the other. Conditions: as each says. -/
import Derived.Test.YtcmnpelmmekdkaaGreatDoorY43
import Derived.Shelf.SlSortCmp.NoneTotal
set_option linter.unusedVariables false
set_option linter.unusedSimpArgs false
section
namespace Go.Proofs.YtcmnpelmmekdkaaGreatDoor.P
open Go Go.ax
set_option maxRecDepth 100000
section
variable {α:Type} [DecidableEq α] {en:α→DV}
theorem Qd (hk:∀ a b,eS (en a) (en b)=decide (a=b)) {x:α}:∀ {l:List α},x∈l→cD (en x) (.bool true) (l.map fun a=>(en a,DV.bool true))=l.map fun a=>(en a,DV.bool true)
 | [],h=>by simp at h
 |y::l,h=>by
  show cD (en x) (.bool true) ((en y,DV.bool true)::l.map fun a=>(en a,DV.bool true))=_;simp only [cD,hk];by_cases e:y=x
  ·subst e; simp
  ·have hm:x∈l:=(List.mem_cons.1 h).resolve_left fun q=>e q.symm;have:=Qd hk hm;first
    |rw [if_neg (by simpa using e),this]; rfl
    |rw [if_neg (by simpa using fun q=>e q.symm),this]; rfl
theorem Qe (hk:∀ a b,eS (en a) (en b)=decide (a=b)) {x:α}:∀ {l:List α},x ∉ l→cD (en x) (.bool true) (l.map fun a=>(en a,DV.bool true))=(l++[x]).map fun a=>(en a,DV.bool true)
 | [],h=>rfl
 |y::l,h=>by
  have h1:y≠x:=fun e=>h (e ▸ List.mem_cons_self ..);have h2:x ∉ l:=fun e=>h (List.mem_cons_of_mem _ e);show cD (en x) (.bool true) ((en y,DV.bool true)::l.map fun a=>(en a,DV.bool true))=_;have:=Qe hk h2;simp only [cD,hk];first
   |rw [if_neg (by simpa using h1),this]; rfl
   |rw [if_neg (by simpa using fun q=>h1 q.symm),this]; rfl
theorem IT (hk:∀ a b,eS (en a) (en b)=decide (a=b)) (l:List α):fq en l=(fu [] l).map fun a=>(en a,DV.bool true):=by
 have main:∀ (n:Nat),fq en (l.take n)=(fu [] (l.take n)).map fun a=>(en a,DV.bool true):=by
  intro n
  induction n with
  |zero=>rfl
  |succ n ih =>
   cases h:l[n]? with
   |none =>
    have:l.length≤n:=by simpa using h
    rw [List.take_of_length_le (by omega),← List.take_of_length_le this];exact ih
   |some x =>
    rw [OH h,ih,eI h,OI];split
    ·rename_i hm; exact Qd hk hm
    ·rename_i hm; exact Qe hk hm
 have:=main l.length
 rwa [List.take_length] at this
end
section
variable {α:Type}
def kM (xs:List α) (seen:List Nat):List α:=seen.filterMap fun j=>xs[j]?
theorem IU {xs:List α} {seen:List Nat} {j:Nat} {a:α} (h:xs[j]? = some a):kM xs (seen++[j])=kM xs seen++[a]:=by
 rw [kM,List.filterMap_append];simp [kM,h]
theorem Qf {xs:List α} {seen:List Nat}:(kM xs seen).length≤seen.length:=List.length_filterMap_le ..
theorem ZS (xs:List α):kM xs (List.range xs.length)=xs:=by
 have main:∀ (n:Nat),n≤xs.length→kM xs (List.range n)=xs.take n:=by
  intro n
  induction n with
  |zero=>intro _; simp [kM]
  |succ n ih =>
   intro h;obtain ⟨a,ha⟩:=aY (l:=xs) (k:=n) (by omega);rw [List.range_succ,IU ha,ih (by omega),eI ha]
 rw [main _ (Nat.le_refl _),List.take_length]
theorem Qg {xs:List α} {seen:List Nat} (hn:seen.Nodup) (ai:∀ j∈seen,j<xs.length) (aT:∀ j,j<xs.length→j∈seen):(kM xs seen).Perm xs:=by
 have h:seen.Perm (List.range xs.length):=(List.perm_ext_iff_of_nodup hn List.nodup_range).2 fun j=>by
  rw [List.mem_range];exact ⟨ai j,aT j⟩
 have:=h.filterMap (fun j=>xs[j]?);have e:=ZS xs;unfold kM at e;rw [e] at this;exact this
theorem DK {xs:List α} {seen:List Nat} (hn:seen.Nodup) (ai:∀ j∈seen,j<xs.length):seen.length≤xs.length:=by
 have:=s4 hn (U:=List.range xs.length) fun j hj=>List.mem_range.2 (ai j hj)
 simpa using this
end
end Go.Proofs.YtcmnpelmmekdkaaGreatDoor.P
end
section
namespace Go.Proofs.YtcmnpelmmekdkaaGreatDoor.P
open Go Go.ax Go.Sort Go.RowKit
set_option maxRecDepth 100000
set_option maxHeartbeats 4000000
theorem I4 (a b:Text) (ha:Nm.valid a=true) (hb:Nm.valid b=true):aA E 36 [.str a,.str b] (· = .int .i64 (bA a b)):=by
 have c1:=C1 a b ha hb;refine eP Tryz.func36 ?_;refine ar (c1) ?_;refine gO Tryz.func36 ?_
 with_reducible rfl
theorem aas (x y:cu) (hx:AU x) (hy:AU y):aA E 130 [x.enc,y.enc] (· = .int .i64 (te x y)):=by
 obtain ⟨⟨xn,xt⟩,xo⟩:=x;obtain ⟨⟨yn,yt⟩,yo⟩:=y;have c1:=I4 xn yn hx.1 hy.1;have c2:=zJ xt yt;have c3:=I4 xo yo hx.2 hy.2;show aA E _ [DV.agg [.str xn,.int .i64 xt,.str xo],DV.agg [.str yn,.int .i64 yt,.str yo]] _;refine eP Tryz.func130 ?_;refine aa.draw aj bW 22 2000 (by kernel_rfl) ?_;conv=>whnf
 with_reducible refine bg (c1) ?_
 refine gD ?_
 with_reducible refine bg (c2) ?_
 refine gD ?_
 with_reducible refine bg (c3) ?_
 refine gD ?_;refine bg (Mf [bA xn yn,fZ xt yt,bA xo yo] (by simp)) ?_;refine gD ?_;refine gS ?_;refine gO Tryz.func130 ?_;rfl
theorem aat:I0 Tryz.prog 129 130 3 Qs:=fun n enc cf hk h1 hO blk cap d w hc hH hblk bP=>by
 have eg:∀ args w,(callFunc 130 args).run Tryz.prog w = .ok (.enter 130 args) w:=enters_of Tryz.func130 (by kernel_rfl) rfl;exact AnyQ.slices_SortFunc Tryz.Qx 3 Tryz.isAgg189 Tryz.sizeOf189 enc hk h1 cf hO 130 #[] blk 0 cap d w eg (fun m os dk hs x y=>hc m os dk hs x y) hH hblk bP
theorem aau:I2 Tryz.prog 74 36:=fun n enc cf h1 hO blk cap d w hc hH hblk bP=>by
 have eg:∀ args w,(callFunc 36 args).run Tryz.prog w = .ok (.enter 36 args) w:=enters_of Tryz.func36 (by kernel_rfl) rfl;exact Any.slices_SortFunc Tryz.aar enc h1 cf hO 36 #[] blk 0 cap d w eg (fun m os dk hs x y=>hc m os dk hs x y) hH hblk bP
def Qy (x y:DV):Int:=match x,y with
 | .agg [.str a,.int _ b,.str c],.agg [.str d,.int _ e,.str f]=>te ⟨⟨a,b⟩,c⟩ ⟨⟨d,e⟩,f⟩
 |_,_=>0
theorem rM (x y:cu):Qy x.enc y.enc=te x y:=rfl
theorem aav {x y z:cu} (h1:¬ iw x y=true) (h2:¬ iw y z=true):¬ iw x z=true:=fun h=>by
 by_cases e:x=y
 ·subst e; exact h2 h
 ·have h3:=Dx x y e (by simpa using h1);exact h2 (AA _ _ _ h3 h)
theorem aaw (l:List cu) (hl:l≠[]) (hlen:l.length<4611686018427387904) (hv:∀ x∈l,AU x) :
  aC E 129 [.arr 0 (189,3) (l.map cu.enc)] [.own 0 0,.fn (.func 130) [] []] (fun a b=>a = .aL []∧∃ l':List cu,l'.Perm l∧l'.Pairwise (fun x y=>¬ te y x<0)∧b=[.arr 0 (189,3) (l'.map cu.enc)]):=by
 have h:=Qu (E:=E) (t:=189) cu.enc Qy aat ⟨_,Tryz.func129,rfl,by decide⟩ l hl hlen (fun x hx=>rfl)
  ⟨fun x hx => by obtain ⟨a, _, rfl⟩ := List.mem_map.1 hx; rw [rM, tf, Pk]; simp,
   fun x hx y hy z hz => by obtain ⟨a, _, rfl⟩ := List.mem_map.1 hx; obtain ⟨b, _, rfl⟩ := List.mem_map.1 hy; obtain ⟨c, _, rfl⟩ := List.mem_map.1 hz; rw [rM, rM, rM, tf, tf, tf]; exact AA _ _ _,
   fun x hx y hy z hz => by obtain ⟨a, _, rfl⟩ := List.mem_map.1 hx; obtain ⟨b, _, rfl⟩ := List.mem_map.1 hy; obtain ⟨c, _, rfl⟩ := List.mem_map.1 hz; rw [rM, rM, rM, tf, tf, tf]; exact aav⟩
  (fun x hx=>aaj _)
  (fun x hx y hy=>by rw [rM]; exact aas x y (hv x hx) (hv y hy))
 exact h.mono fun a b ⟨ha,l',hp,hs,hb⟩=>⟨ha,l',hp,hs.imp fun {x y} h=>by rw [rM] at h; exact h,hb⟩
def aax (x y:DV):Int:=match x,y with
 | .str a,.str b=>bA a b
 |_,_=>0
theorem aay {x y z:Text} (h1:¬ bA x y<0) (h2:¬ bA y z<0):¬ bA x z<0:=fun h=>by
 by_cases e:x=y
 ·subst e; exact h2 h
 ·rcases AB e with h3 | h3
  ·exact h1 h3
  ·exact h2 (pJ h3 h)
theorem aaz (l:List Text) (hl:l≠[]) (hlen:l.length<4611686018427387904) (hv:∀ x∈l,Nm.valid x=true) :
  aC E 74 [.arr 0 (9,1) (l.map .str)] [.own 0 0,.fn (.func 36) [] []] (fun a b=>a = .aL []∧∃ l':List Text,l'.Perm l∧l'.Pairwise (fun x y=>¬ bA y x<0)∧b=[.arr 0 (9,1) (l'.map .str)]):=by
 have h:=Qu (E:=E) (t:=9) DV.str aax aau.w ⟨_,Tryz.func74,rfl,by decide⟩ l hl hlen (fun x hx=>rfl)
  ⟨fun x hx => by obtain ⟨a, _, rfl⟩ := List.mem_map.1 hx; show ¬ bA a a < 0; rw [mb]; simp,
   fun x hx y hy z hz => by obtain ⟨a, _, rfl⟩ := List.mem_map.1 hx; obtain ⟨b, _, rfl⟩ := List.mem_map.1 hy; obtain ⟨c, _, rfl⟩ := List.mem_map.1 hz; exact pJ,
   fun x hx y hy z hz => by obtain ⟨a, _, rfl⟩ := List.mem_map.1 hx; obtain ⟨b, _, rfl⟩ := List.mem_map.1 hy; obtain ⟨c, _, rfl⟩ := List.mem_map.1 hz; exact aay⟩
  (fun x hx=>aak _ rfl)
  (fun x hx y hy=>I4 x y (hv x hx) (hv y hy))
 exact h
theorem aaA {g:FuncId}:aC E 129 [] [.d (.sl []),.fn (.func g) [] []] (fun a b=>a = .aL []∧b=[]):=by
 unfold aC;refine ⟨⟨_,Tryz.func129,rfl,by decide⟩,sk rfl,fun c vs h1 h2 h3=>?_⟩;obtain ⟨v1,v2,rfl⟩:∃ v1 v2,vs=[v1,v2]:=by
  have:=h3.1
  match vs,this with
  | [a,b],_=>exact ⟨a,b,rfl⟩
 have xT:=h3.2 0 _ v1 rfl rfl;obtain ⟨p,cap,rfl⟩:∃ p cap,v1 = .slice p 0 cap:=by
  cases xT with
  |d _ _ h=>cases h <;> exact ⟨_,_,rfl⟩
 refine (AnyF.slices_SortFunc_none Tryz.Qx p cap v2 c.w).mono fun e w' ⟨a1,a2⟩=>?_;subst a2;exact ⟨c,.aL [],.tuple #[],a1,rfl,⟨rfl,h1⟩,.aL [] #[] rfl (fun j x v hx=>by simp at hx),h2,Rel.refl c (by rw [h1]; exact sk rfl)⟩
theorem aaB (l:List DV) (hl:l.length≤2147483648) (hc:∀ e∈l,e.cells.length=3):aA E 128 [.sl l] (· = .sl l):=by
 by_cases h:l=[]
 ·subst h;refine aA.norm ?_;refine eP Tryz.func128 ?_;refine aa.uX aj rfl rfl rfl rfl (bh rfl) (fun b hb=>?_);cases b
  ·refine gO Tryz.func128 ?_;refine ba ?_;refine gO Tryz.func128 ?_;refine bQ ⟨by decide,fun e he=>by cases he⟩ ?_;refine gO Tryz.func128 ?_;rfl
  ·refine gO Tryz.func128 ?_;refine bq ?_;refine gO Tryz.func128 ?_;rfl
 ·refine eP Tryz.func128 ?_;refine aa.uX aj rfl rfl rfl rfl (bh rfl) (fun b hb=>?_);obtain rfl:b=false:=by
   cases b
   ·rfl
   ·exact absurd (hb rfl) h
  refine gO Tryz.func128 ?_;refine ba ?_;refine gO Tryz.func128 ?_;refine bQ ⟨by simp; omega,hc⟩ ?_;refine gO Tryz.func128 ?_;rfl
theorem aaC (l:List DV) (h:l≠[]) (hl:l.length≤2147483648) (hc:∀ e∈l,e.cells.length=3):aC E 128 [] [.d (.sl l)] (fun a b=>a = .own 0 1∧b=[.arr 1 (189,3) l]):=by
 refine aC.run aj (fn:=Tryz.f128) Tryz.func128 (body:=Tryz.f128.body.getD .skip) rfl (by decide) 2000 rfl ?_;(conv=>whnf);refine aa.uX aj rfl rfl rfl rfl (bh rfl) (fun b hb=>?_);obtain rfl:b=false:=by
  cases b
  ·rfl
  ·exact absurd (hb rfl) h
 refine gO Tryz.func128 ?_;refine ba ?_;refine gO Tryz.func128 ?_;refine bQ ⟨by simp; omega,hc⟩ ?_;refine gO Tryz.func128 ?_;exact ⟨rfl,rfl⟩
theorem aaD (Z:List Text):aC E 87 [] [.d (vx Z [])] (fun a b=>a = .fn (.func 133) [] [.ptr 1 0]∧b=[.cells [.d (.sl (Z.map .str)),.d (.sl [])],.cells [.d (.sl [])]]):=by
 have c1:=aaB [] (by simp) (by simp);have c2:=aaA (g:=130);show aC E _ [] [.d (DV.agg [.sl (Z.map .str),.sl []])] _;refine aC.run aj (fn:=Tryz.f87) Tryz.func87 (body:=Tryz.f87.body.getD .skip) rfl (by decide) 2000 rfl ?_;(conv=>whnf);refine ar (c1) ?_;refine gO Tryz.func87 ?_
 with_reducible refine bR (c2) ?_
 refine gO Tryz.func87 ?_;exact ⟨rfl,rfl⟩
theorem aaE (Z:List Text) (F:List cu) (h0:F≠[]) (hF:F.length≤1000000) (hv:∀ x∈F,AU x):aC E 87 [] [.d (vx Z F)] (fun a b=>∃ L:List cu,(L.Perm F∧L.Pairwise fun x y=>¬ te y x<0)∧a = .fn (.func 133) [] [.ptr 2 0]∧b=[.cells [.d (.sl (Z.map .str)),.d (.sl (F.map cu.enc))],.gone,.cells [.d (.sl (L.map cu.enc))]]):=by
 have c1:=aaC (F.map cu.enc) (by simpa using h0) (by simp; omega) (fun e he=>by obtain ⟨x,-,rfl⟩:=List.mem_map.1 he; rfl);have c2:=aaw F h0 (by omega) hv;show aC E _ [] [.d (DV.agg [.sl (Z.map .str),.sl (F.map cu.enc)])] _;refine aC.run aj (fn:=Tryz.f87) Tryz.func87 (body:=Tryz.f87.body.getD .skip) rfl (by decide) 2000 rfl ?_;(conv=>whnf);refine y7 (c1) rfl ?_;refine gO Tryz.func87 ?_
 with_reducible refine uf (c2) ?_
 rintro r h1 ⟨e1,L,p1,p2,e2⟩;subst e1;subst e2;(conv=>whnf);refine aa.freeze 1 ?_;(conv=>whnf);refine gO Tryz.func87 ?_;exact ⟨L,⟨p1,p2⟩,rfl,rfl⟩
end Go.Proofs.YtcmnpelmmekdkaaGreatDoor.P
end

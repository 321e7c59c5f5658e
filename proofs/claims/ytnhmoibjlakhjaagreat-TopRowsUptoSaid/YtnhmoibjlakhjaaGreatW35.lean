/- Lemmas, each under its own conditions. -/
import Derived.Test.YtnhmoibjlakhjaaGreatW34
import Derived.Lib.AppendZerosOnto
import Derived.Shelf.Spec.SlicesInsert
set_option linter.all false
namespace Go.Proofs.YtnhmoibjlakhjaaGreat
open Go.Proofs.Tryz
set_option maxRecDepth 100000
set_option maxHeartbeats 16000000
open Go.RowKit
theorem XZ {P:Program}(w:World)(u sT T elem:TypeId)(b o h E:Nat)(a:Addr)(s G m k:Nat)(cs:List Value)
  (O:P.underlying u=some (.slice elem)) (C:(P.info? elem).map (·.size)=some k) (M:Nat.min s h=m) (N:cs.length=m*k)
  (F: ∀ j v,cs[j]?=some v->w.cell? (a.add j)=some v) (D:w.there b o cs.length) (J: ∀ v∈cs,v.oneCell'=true):
  (Builtin.copy_ #[u,sT] T #[.slice (some ⟨b,o,none⟩) h E,.slice (some a) s G]).run P w= .ok (goInt m) (w.setCells b o cs):=by
 have L:=run_loadCells_list (P:=P) w a cs F;have I:=run_storeCells_cells (P:=P) b o cs 0 w (fun j d=>by simpa using (D j d).1) (fun j d=>by simpa using (D j d).2) J
 cases hq:P.info? elem with
 | none=>simp [hq] at C
 | some i=>
  have K:i.size=k:=by simpa [hq] using C
  simp [Builtin.copy_,run_underlying O,Builtin.lenOf,Builtin.firstCells,sizeOf,typeInfo,hq,K,M,<-N,L,I]
theorem Pd {w:World}{base g n c k:Nat}{T:TypeId}{xs:List Value}(h:w.ownsRow base T k (.slice (some ⟨g,0,none⟩) n c) n xs){m:Nat}(M:n<=m)(C:m<=c): ∃ j,j.length=m*k/\j.take (n*k)=xs/\w.ownsRow base T k (.slice (some ⟨g,0,none⟩) m c) m j:=by
 obtain⟨U,I⟩:=h;rcases I with ⟨G,_⟩ | ⟨F,cap,d,N,hb,L,O,J,u,K⟩
 ·cases G
 ·injection N with hv1 hv2 hv3
  subst hv3;have D:m*k<=c*k:=Nat.mul_le_mul_right _ C;have E:n*k<=m*k:=Nat.mul_le_mul_right _ M;have s:(d.toList.take (m*k)).length=m*k:=by rw [List.length_take,Array.length_toList,u,Nat.min_eq_left D]
  exact⟨d.toList.take (m*k),s,by rw [List.take_take,Nat.min_eq_left E,K],s,.inr ⟨F,c,d,by rw [hv1],hb,L,C,J,u,rfl⟩⟩
theorem Rk {w:World}{base m G k:Nat}{T:TypeId}{row:Array Value}(hb:base<=w.heap.size)(h:row.size=G*k)(d:m<=G)(s:G<=maxLen):(w.drew.alloc (.cells row T)).ownsRow base T k (.slice (some ⟨w.heap.size,0,none⟩) m G) m (row.toList.take (m*k)):=by
 have j:m*k<=G*k:=Nat.mul_le_mul_right _ d;exact⟨by rw [List.length_take,Array.length_toList,h,Nat.min_eq_left j],.inr ⟨w.heap.size,G,row,rfl,hb,heap_alloc_new w.drew _,d,s,h,rfl⟩⟩
theorem UA (d X D:List Value)(i n k:Nat)(L:i<=n)(E:d.length=(n+1)*k)(C:X.length=k)(I:D.length=(n - i)*k):
  XP (XP d ((i+1)*k) D) (i*k) X=d.take (i*k) ++ (X ++D)/\XP (XP d (i*k) X) ((i+1)*k) D=d.take (i*k) ++ (X ++D):=by
 have h:(i+1)*k=i*k+k:=by rw [Nat.add_mul,Nat.one_mul]
 have u:(n+1)*k=i*k+ (k+ (n - i)*k):=by
  rw [<-Nat.add_assoc,<-h,<-Nat.add_mul];congr 1
  omega
 have s:(d.take (i*k)).length=i*k:=by rw [List.length_take,E,u];omega
 obtain⟨o1,F⟩: ∃ o1,o1=(d.drop (i*k)).take k:=⟨_,rfl⟩
 obtain⟨o2,G⟩: ∃ o2,o2=d.drop ((i+1)*k):=⟨_,rfl⟩
 have l1:o1.length=k:=by rw [F,List.length_take,List.length_drop,E,u];omega
 have J:o2.length=(n - i)*k:=by rw [G,List.length_drop,E,u,h];omega
 have K:d=d.take (i*k) ++ (o1 ++o2):=by
  have:o1 ++o2=d.drop (i*k):=by
   rw [F,G,h,<-List.drop_drop,List.take_append_drop]
  rw [this,List.take_append_drop]
 generalize d.take (i*k)=p at*;subst K;constructor
 ·have j:=Xp D (p ++o1) o2 [] (by rw [J,I]);rw [List.append_nil,List.append_nil,List.length_append,s,l1,<-h,List.append_assoc] at j;rw [j];have m:=Xp X p o1 D (by rw [l1,C]);rw [s] at m;rw [List.append_assoc,m]
 ·have j:=Xp X p o1 o2 (by rw [l1,C]);rw [s] at j;rw [j];have m:=Xp D (p ++X) o2 [] (by rw [J,I]);rw [List.append_nil,List.append_nil,List.length_append,s,C,<-h,List.append_assoc,List.append_assoc] at m;exact m
theorem Pw {α:Type}{enc:α->List Value}{k:Nat}(d: ∀ x,(enc x).length=k)(l:List α)(i:Nat)(x:α):(l.flatMap enc).take (i*k) ++ (enc x ++ (l.flatMap enc).drop (i*k))=(l.take i ++x ::l.drop i).flatMap enc:=by
 rw [List.flatMap_append,List.flatMap_cons,Xj d,WJ d]
theorem Xt (cs:Array Value)(n:Nat):(Builtin.zeroCells cs n).size=n*cs.size:=by simp [Builtin.zeroCells]
open Lib (hid)
theorem XX {w:World}{base:Nat}{T:TypeId}{k n:Nat}{v:Value}{xs:lV}(h:w.ownsRow base T k v n xs):w.drew.ownsRow base T k v n xs:=h
def QH {α:Type}(base:Nat)(T:TypeId)(k:Nat)(enc:α->lV)(l:List α)(i:Nat)(x:α)(w:World)(e:Ending)(w':World):Prop:=
 ∃ A' c',e= .returned (.slice A' (l.length+1) c')/\w'.ownsRow base T k (.slice A' (l.length+1) c') (l.length+1) ((l.take i ++x ::l.drop i).flatMap enc)/\Below base w w'/\ZS [T] w w'
theorem RU (base:Nat)(l:List (Gr))(A:oA)(c i:Nat)(x:Gr)(C:Nat)(w:World)(h:w.ownsRow base 53 6 (.slice A l.length c) l.length (l.flatMap Gr.cs))(hi:i<=l.length)(hx:ZP w C 53 (Gr.cs x))(bg: ∀ g,A=some (aD g 0)->C≠g)(hl:l.length<=1099511627776)(aa:base<=w.heap.size):
  cQ 186 #[.slice A l.length c,i6 i,.slice (some (aD C 0)) 1 1] w (QH base 53 6 Gr.cs l i x w):=by
 obtain⟨i0,aw,aP,av,aA⟩:=info_parts Ug;have H:=hid h;have Z:=hid hx;have aQ:=hid (ZP.news hx);have az:(Gr.cs x).length=1*6:=by rw [Gr.k]
 clear hx h;by_cases hin:i=l.length
 ·subst hin;have aL:l.take l.length ++x ::l.drop l.length=l ++ [x]:=by simp
  have HR:Hid (∀ A' c' w',w'.ownsRow base 53 6 (.slice A' (l.length+1) c') (l.length+1) (l.flatMap Gr.cs ++Gr.cs x)->w.grownBy w' (Value.slice A l.length c).ownBlock->QH base 53 6 Gr.cs l l.length x w (.returned (.slice A' (l.length+1) c')) w'):=hid fun A' c' w' ho hg=>by
   refine⟨A',c',rfl,?_,br.grown hg aa (ZD H.o),ZS.grown H.o hg (by simp) hg.size⟩
   rw [aL,List.flatMap_append,List.flatMap_singleton];exact ho
  have bh:=H;rcases H.o.2 with ⟨h0,_⟩ | ⟨g,cap,bi,h0,_,_,_,_,_,_⟩
  ·injection h0 with e1 e2 e3
   obtain rfl:l= []:=List.eq_nil_of_length_eq_zero e2;subst e1 e3;go_enter func186,ntmps186
   go_wp2_with (at_builtin;refine Zb rfl _ _ _ rfl base 53 i0 _ 6 80 underlying31 aw aP av aA rfl (by decide) (sN) 0 _ rfl H.o (aD C 0) 1 1 (Gr.cs x) rfl az aQ.o (Gr.one x) (by unfold maxLen;omega) (by omega) aa ?_;intro A3 c3 w3 aB aI)
   all_goals
    go_ret;exact HR.o _ _ _ aB.o aI.o
  ·injection h0 with e1 e2 e3
   subst e1;have aG:=(Yw H.o).1;have ak:=(Yw H.o).2;go_enter func186,ntmps186
   go_wp2_with (at_builtin;refine Zb rfl _ _ _ rfl base 53 i0 _ 6 80 underlying31 aw aP av aA rfl (by decide) (sl (some (aD g 0)) l c) l.length _ rfl H.o (aD C 0) 1 1 (Gr.cs x) rfl az aQ.o (Gr.one x) (by unfold maxLen;omega) (by omega) aa ?_;intro A3 c3 w3 aB aI)
   all_goals
    go_ret;exact HR.o _ _ _ aB.o aI.o
 ·obtain⟨g,rfl⟩:=Xi H.o (by omega);have aZ:=bg g rfl;have aG:=(Yw H.o).1;have ak:=(Yw H.o).2;have aK: ¬ ((i:Int)=(l.length:Int)):=by omega
  have bb:((i:Int) ==(l.length:Int))=false:=by simpa using aK
  have bq:(i:Int)<=(l.length:Int):=by omega
  have ag:(l.flatMap Gr.cs).length=l.length*6:=H.o.1;have M:((l.flatMap Gr.cs).drop (i*6)).length=(l.length - i)*6:=by rw [List.length_drop,ag,<-Nat.sub_mul]
  have O:(Gr.cs x).length=6:=Gr.k x;have aR: ∀ v∈(l.flatMap Gr.cs).drop (i*6),v.oneCell'=true:=fun v hv=>Yg Gr.one l v (List.mem_of_mem_drop hv)
  have ay:(prog.info? 53).map (·.size)=some 6:=by rw [aw];simp [av]
  have ae:=(ZJ H.o).2.2.2.2;have ba:=(ZJ H.o).2.1;have aV:=(ZJ H.o).1;have aO:=Z.o.lt;have bs:(i+1)*6=i*6+6:=by omega
  have ap: ∀ zs:lV,zs.take (i*6)=(l.flatMap Gr.cs).take (i*6)->zs.take (i*6) ++ (Gr.cs x ++ (l.flatMap Gr.cs).drop (i*6))=(l.take i ++x ::l.drop i).flatMap Gr.cs:=fun zs h=>by rw [h,Pw Gr.k]
  have aS: ∀ j v,((l.flatMap Gr.cs).drop (i*6))[j]?=some v->w.cell? (aD g (i*6+j))=some v:=fun j v F=>ae _ v (by rw [List.getElem?_drop] at F;simpa using F)
  generalize (l.flatMap Gr.cs).drop (i*6)=D at*;have bv:IntKind.i64.wrap ((i:Int)+1)=(i:Int)+1:=by rw [IntKind.wrap_i64];omega
  have bu:((i:Int)+1).toNat=i+1:=by omega
  have bk:(0:Int)<=(i:Int)+1:=by omega
  have bn:(i:Int)<=(l.length:Int)+1:=by omega
  have mixed:prog.follows .mixedOrders=true:=by kernel_rfl
  by_cases hroom:l.length+1<=c
  ·have bf: ¬ (c:Int)< (l.length:Int)+1:=by omega
   have aM: ¬ (l.length:Int)+1 >(c:Int):=by omega
   have bm: ¬ (c=i+1):=by omega
   have bo: ¬ (c=i):=by omega
   obtain⟨U,L,au,I⟩:=Pd H.o (m:=l.length+1) (by omega) hroom;have ab:=(UA U (Gr.cs x) D i l.length 6 hi L O M).1;replace I:w.drew.ownsRow base 53 6 (.slice (some (aD g 0)) (l.length+1) c) (l.length+1) U:=I;have J:=XF D ((i+1)*6) I (by rw [M,L];omega)
   have K:=XF (Gr.cs x) (i*6) J (by rw [Vb,O,L];omega);rw [ab,ap U (by rw [<-au,List.take_take,Nat.min_eq_left (by omega)])] at K;rw [show (i+1)*6=i*6+6 from by omega] at J;rw [show (i+1)*6=i*6+6 from by omega] at K;have aT:=(ZJ H.o).2.2.1;have ad:Hid (QH base 53 6 Gr.cs l i x w (.returned (.slice (some (aD g 0)) (l.length+1) c)) (((w.drew.setCells g (i*6+6) D)).setCells g (i*6) (Gr.cs x))):=hid ⟨_,_,rfl,K,(br.drew.trans (ZF aV _ _)).trans (ZF aV _ _),((ZS.drew w).trans (ZS.setCells (by simp) (show Za w.drew g 53 from aT) _ _)).trans (ZS.setCells (by simp) (ZJ J).2.2.1 _ _)⟩;have ax: ∃ kB,w.shape? g=some (53,kB)/\kB≠0:=by
    obtain⟨e,nB,N,bd,_⟩:=World.shape?_of_cell? (ae 0 _ (List.getElem?_eq_getElem (by omega)))
    obtain⟨cs,fr,hT⟩:=aT;have:e=53:=by
     unfold World.shape? at N;rw [hT] at N;injection N with N
     injection N with N _
     exact N.symm
    exact⟨nB,by rw [N,this],by simp at bd;omega⟩
   obtain⟨kB,ax,bc⟩:=ax;have aY:w.shape? C=some (53,6):=by
    unfold World.shape?;rw [Z.o];simp [O]
   have be: ∀ lb cb,(callFunc 252 #[.slice (some (aD C 0)) 1 1,.slice (some (aD g (i*6+6))) lb cb]).run prog w= .ok (.value (.bool false)) w:=fun lb cb=>by
    rw [run_callFunc_extern func252 (by kernel_rfl) (by kernel_rfl) (by kernel_rfl) (e:=Extern.SlicesOverlaps.overlaps #[31,31] #[4]) (by kernel_rfl),
     Lib.run_overlaps_apart w 31 4 53 underlying31 6 (fun w=>by kernel_rfl) (aD C 0) (aD g (i*6+6)) 1 1 lb cb aZ 53 53 6 kB aY ax bc (Z.o.frozen 0) (Z.o.frozen 6)]
    rfl
   have am: ∀ s u sc,(Builtin.copy_ #[31,31] s #[.slice (some (aD g (i*6+6))) (l.length - i) u,.slice (some (aD g (i*6))) (l.length+1 - i) sc]).run prog w.drew= .ok (goInt ((l.length - i:Nat):Int)) (w.drew.setCells g (i*6+6) D):=fun s u sc=>
    XZ w.drew 31 31 s 53 g (i*6+6) (l.length - i) u (aD g (i*6)) (l.length+1 - i) sc (l.length - i) 6 D underlying31 ay (by simp only [Nat.min_def];split <;> omega) M (fun j v F=>by
     rw [Addr.add_lit];exact aS j v F) (Y8 H.o _ _ (by rw [M];omega)) aR
   obtain⟨d,V⟩: ∃ d,d=w.drew.setCells g (i*6+6) D:=⟨_,rfl⟩
   rw [<-V] at am J ad;have aj:ZP d C 53 (Gr.cs x):=by rw [V];exact(YZ w.drew g aZ _ _).trans Z.o
   have aH: ∀ s u,(Builtin.copy_ #[31,31] s #[.slice (some (aD g (i*6))) (l.length+1 - i) u,.slice (some (aD C 0)) 1 1]).run prog d= .ok (goInt 1) (d.setCells g (i*6) (Gr.cs x)):=fun s u=>
    XZ d 31 31 s 53 g (i*6) (l.length+1 - i) u (aD C 0) 1 1 1 6 (Gr.cs x) underlying31 ay (by simp only [Nat.min_def];split <;> omega) az (ZP.news aj) (Y8 J _ _ (by rw [O];omega)) (Gr.one x)
   clear I J K ab aY ax V aj L au;go_enter func186,ntmps186
   go_wp2_with (simp only [be]);go_region_law_o (refine step_copy_runI rfl _ _ 31 31 rfl _ _ (by simp [Act.eval,Act.put]) (by simp [Act.eval,Act.put]) (am _ _ _) ?_)
   go_wp2_with (at_builtin;refine wpList_copy_runI _ rfl _ _ 31 31 rfl _ _ rfl rfl (aH _ _) ?_);go_ret;exact ad.o
  ·obtain rfl:c=l.length:=by omega
   have bf:(l.length:Int)< (l.length:Int)+1:=by omega
   have aM:(l.length:Int)+1 >(l.length:Int):=by omega
   have aq:(Builtin.firstCells i0.size i (.slice (some (aD g 0)) i l.length)).run prog w.drew= .ok ((l.flatMap Gr.cs).take (i*6)).toArray w.drew:=by
    rw [av];exact run_firstCells_some w.drew 6 i (aD g 0) i l.length ((l.flatMap Gr.cs).take (i*6)) (by rw [List.length_take,ag];omega) (fun j v F=>by
     rw [Addr.add_lit,Nat.zero_add];rw [List.getElem?_take] at F;split at F
     ·exact ae j v F
     ·cases F)
   have aJ:i+ (l.length+1 - i)=l.length+1:=by omega
   have aW:(l.length:Int)+1 - (i:Int)=((l.length+1 - i:Nat):Int):=by omega
   obtain⟨G,hG⟩: ∃ G,G=grownCap w (l.length+1) l.length 53:=⟨_,rfl⟩
   obtain⟨E,af⟩: ∃ E:Array Value,E=((l.flatMap Gr.cs).take (i*6)).toArray ++Builtin.zeroCells (Value.cells (.agg #[s0,s0,i6 0,s0,s0,.bool false])) (l.length+1 - i) ++Builtin.zeroCells (Value.cells (.agg #[s0,s0,i6 0,s0,s0,.bool false])) (G - (l.length+1)):=⟨_,rfl⟩
   have a8:l.length+1<=G:=by rw [hG];exact grownCap_ge w _ _ _
   have ah:G<=maxLen:=by rw [hG];exact grownCap_le_maxLen w (l.length+1) l.length 53 (by unfold maxLen;omega)
   have aX: ∀ s,(Builtin.append_ #[31,3] s #[.slice (some (aD g 0)) i l.length,.int .i64 ((l.length:Int)+1 - (i:Int))]).run prog w= .ok (.slice (some (aN w 0)) (l.length+1) G) (w.drew.alloc (.cells E 53)):=fun s=>by
    have h:=Lib.run_append_grow_zeros w 31 3 s 53 i0 _ .i64 .i64 underlying31 underlying3 aw aP (some (aD g 0)) i l.length ((l.flatMap Gr.cs).take (i*6)) aq (l.length+1 - i) (by omega) (by rw [av];decide) (by omega) (by omega) (by rw [aA];omega) (by rw [aA,aJ];exact growslice_fits (by omega) (by omega));rw [aJ,<-hG,<-af] at h;rw [aW];exact h
   have aE:E.size=G*6:=by
    rw [af,Array.size_append,Array.size_append,Xt,Xt,List.size_toArray,List.length_take,ag,show (Value.cells (.agg #[s0,s0,i6 0,s0,s0,.bool false])).size=6 from rfl];omega
   have I:=Rk (T:=53) (k:=6) aa aE a8 ah;have L:(E.toList.take ((l.length+1)*6)).length=(l.length+1)*6:=by
    have h1:E.toList.length=E.size:=Array.length_toList;rw [List.length_take,h1,aE];omega
   have au:(E.toList.take ((l.length+1)*6)).take (i*6)=(l.flatMap Gr.cs).take (i*6):=by
    rw [List.take_take,Nat.min_eq_left (by omega),af];simp only [Array.toList_append,List.append_assoc];rw [List.take_append_of_le_length (by rw [List.length_take,ag];omega),List.take_take,Nat.min_self]
   generalize E.toList.take ((l.length+1)*6)=U at*;have ab:=(UA U (Gr.cs x) D i l.length 6 hi L O M).2;have ai:Below w.heap.size w (w.drew.alloc (.cells E 53)):=br.drew.alloc lr _;obtain⟨d,V⟩: ∃ d,d=w.drew.alloc (.cells E 53):=⟨_,rfl⟩
   rw [<-V] at I aX ai;have aj:ZP d C 53 (Gr.cs x):=Z.o.below ai aO;have J:=XF (Gr.cs x) (i*6) I (by rw [O,L];omega)
   have ac:(d.setCells w.heap.size (i*6) (Gr.cs x)).drew.ownsRow base 53 6 (.slice (some (aN w 0)) (l.length+1) G) (l.length+1) (XP U (i*6) (Gr.cs x)):=XX J;have K:=XF D ((i+1)*6) ac (by rw [Vb,M,L];omega)
   rw [ab,ap U au] at K;rw [show (i+1)*6=i*6+6 from by omega] at K;have aF:=(ZJ I).2.2.1;have aC:Below w.heap.size w (((d.setCells w.heap.size (i*6) (Gr.cs x)).drew).setCells w.heap.size (i*6+6) D):=((ai.trans (ZF lr _ _)).drew).trans (ZF lr _ _);have ad:Hid (QH base 53 6 Gr.cs l i x w (.returned (.slice (some (aN w 0)) (l.length+1) G)) (((d.setCells w.heap.size (i*6) (Gr.cs x)).drew).setCells w.heap.size (i*6+6) D)):=hid ⟨_,_,rfl,K,aC.mono aa,ZS.ZA aC lr⟩;have an: ∀ s u,(Builtin.copy_ #[31,31] s #[.slice (some (aN w (i*6))) (l.length+1 - i) u,.slice (some (aD C 0)) 1 1]).run prog d= .ok (goInt 1) (d.setCells w.heap.size (i*6) (Gr.cs x)):=fun s u=>
    XZ d 31 31 s 53 w.heap.size (i*6) (l.length+1 - i) u (aD C 0) 1 1 1 6 (Gr.cs x) underlying31 ay (by simp only [Nat.min_def];split <;> omega) az (ZP.news aj) (Y8 I _ _ (by rw [O];omega)) (Gr.one x)
   have ar: ∀ j v,D[j]?=some v->(d.setCells w.heap.size (i*6) (Gr.cs x)).drew.cell? (((aD g (i*6)):Addr).add j)=some v:=fun j v F=>by
    rw [Addr.add_lit];have h1:w.cell? (aD g (i*6+j))=some v:=aS j v F;have h2:Below w.heap.size w (d.setCells w.heap.size (i*6) (Gr.cs x)).drew:=(ai.trans (ZF lr _ _)).drew;exact ct h1 h2 ba
   have ao: ∀ s u sc,(Builtin.copy_ #[31,31] s #[.slice (some (aN w (i*6+6))) (l.length - i) u,.slice (some (aD g (i*6))) (l.length - i) sc]).run prog (d.setCells w.heap.size (i*6) (Gr.cs x)).drew= .ok (goInt ((l.length - i:Nat):Int)) ((d.setCells w.heap.size (i*6) (Gr.cs x)).drew.setCells w.heap.size (i*6+6) D):=fun s u sc=>
    XZ _ 31 31 s 53 w.heap.size (i*6+6) (l.length - i) u (aD g (i*6)) (l.length - i) sc (l.length - i) 6 D underlying31 ay (Nat.min_self _) M ar (Y8 ac _ _ (by rw [M];omega)) aR
   have bj: ¬ (G=i):=by omega
   have a7: ¬ (G=i+1):=by omega
   have bp: ¬ (l.length=i):=by omega
   have a6:G<=9223372036854775807:=ah;obtain⟨W2,aU⟩: ∃ W2,W2=d.setCells w.heap.size (i*6) (Gr.cs x):=⟨_,rfl⟩
   rw [<-aU] at an ao ad;clear aq aJ aW hG af aE I L au ab V aj J ac K aF aC ar ai aU ah;go_enter func186,ntmps186
   go_wp2_with (first
    |(at_builtin;refine Lib.wpList_append_run _ rfl _ _ _ _ rfl _ _ rfl rfl _ _ (aX _) ?_)
    |(at_builtin;refine wpList_copy_runI _ rfl _ _ 31 31 rfl _ _ rfl rfl (an _ _) ?_))
   go_region_law_o (refine step_copy_runI rfl _ _ 31 31 rfl _ _ (by simp [Act.eval,Act.put]) (by simp [Act.eval,Act.put]) (ao _ _ _) ?_)
   go_wp2;go_ret;exact ad.o
theorem Oy (base:Nat)(l:List (Mb))(A:oA)(c i:Nat)(x:Mb)(C:Nat)(w:World)(h:w.ownsRow base 147 2 (.slice A l.length c) l.length (l.flatMap Mb.cs))(hi:i<=l.length)(hx:ZP w C 147 (Mb.cs x))(bg: ∀ g,A=some (aD g 0)->C≠g)(hl:l.length<=1099511627776)(aa:base<=w.heap.size):
  cQ 191 #[.slice A l.length c,i6 i,.slice (some (aD C 0)) 1 1] w (QH base 147 2 Mb.cs l i x w):=by
 obtain⟨i0,aw,aP,av,aA⟩:=info_parts TG;have H:=hid h;have Z:=hid hx;have aQ:=hid (ZP.news hx);have az:(Mb.cs x).length=1*2:=by rw [Mb.k]
 clear hx h;by_cases hin:i=l.length
 ·subst hin;have aL:l.take l.length ++x ::l.drop l.length=l ++ [x]:=by simp
  have HR:Hid (∀ A' c' w',w'.ownsRow base 147 2 (.slice A' (l.length+1) c') (l.length+1) (l.flatMap Mb.cs ++Mb.cs x)->w.grownBy w' (Value.slice A l.length c).ownBlock->QH base 147 2 Mb.cs l l.length x w (.returned (.slice A' (l.length+1) c')) w'):=hid fun A' c' w' ho hg=>by
   refine⟨A',c',rfl,?_,br.grown hg aa (ZD H.o),ZS.grown H.o hg (by simp) hg.size⟩
   rw [aL,List.flatMap_append,List.flatMap_singleton];exact ho
  have bh:=H;rcases H.o.2 with ⟨h0,_⟩ | ⟨g,cap,bi,h0,_,_,_,_,_,_⟩
  ·injection h0 with e1 e2 e3
   obtain rfl:l= []:=List.eq_nil_of_length_eq_zero e2;subst e1 e3;go_enter func191,ntmps191
   go_wp2_with (at_builtin;refine Zb rfl _ _ _ rfl base 147 i0 _ 2 32 underlying28 aw aP av aA rfl (by decide) (sN) 0 _ rfl H.o (aD C 0) 1 1 (Mb.cs x) rfl az aQ.o (Mb.one x) (by unfold maxLen;omega) (by omega) aa ?_;intro A3 c3 w3 aB aI)
   all_goals
    go_ret;exact HR.o _ _ _ aB.o aI.o
  ·injection h0 with e1 e2 e3
   subst e1;have aG:=(Yw H.o).1;have ak:=(Yw H.o).2;go_enter func191,ntmps191
   go_wp2_with (at_builtin;refine Zb rfl _ _ _ rfl base 147 i0 _ 2 32 underlying28 aw aP av aA rfl (by decide) (sl (some (aD g 0)) l c) l.length _ rfl H.o (aD C 0) 1 1 (Mb.cs x) rfl az aQ.o (Mb.one x) (by unfold maxLen;omega) (by omega) aa ?_;intro A3 c3 w3 aB aI)
   all_goals
    go_ret;exact HR.o _ _ _ aB.o aI.o
 ·obtain⟨g,rfl⟩:=Xi H.o (by omega);have aZ:=bg g rfl;have aG:=(Yw H.o).1;have ak:=(Yw H.o).2;have aK: ¬ ((i:Int)=(l.length:Int)):=by omega
  have bb:((i:Int) ==(l.length:Int))=false:=by simpa using aK
  have bq:(i:Int)<=(l.length:Int):=by omega
  have ag:(l.flatMap Mb.cs).length=l.length*2:=H.o.1;have M:((l.flatMap Mb.cs).drop (i*2)).length=(l.length - i)*2:=by rw [List.length_drop,ag,<-Nat.sub_mul]
  have O:(Mb.cs x).length=2:=Mb.k x;have aR: ∀ v∈(l.flatMap Mb.cs).drop (i*2),v.oneCell'=true:=fun v hv=>Yg Mb.one l v (List.mem_of_mem_drop hv)
  have ay:(prog.info? 147).map (·.size)=some 2:=by rw [aw];simp [av]
  have ae:=(ZJ H.o).2.2.2.2;have ba:=(ZJ H.o).2.1;have aV:=(ZJ H.o).1;have aO:=Z.o.lt;have bs:(i+1)*2=i*2+2:=by omega
  have ap: ∀ zs:lV,zs.take (i*2)=(l.flatMap Mb.cs).take (i*2)->zs.take (i*2) ++ (Mb.cs x ++ (l.flatMap Mb.cs).drop (i*2))=(l.take i ++x ::l.drop i).flatMap Mb.cs:=fun zs h=>by rw [h,Pw Mb.k]
  have aS: ∀ j v,((l.flatMap Mb.cs).drop (i*2))[j]?=some v->w.cell? (aD g (i*2+j))=some v:=fun j v F=>ae _ v (by rw [List.getElem?_drop] at F;simpa using F)
  generalize (l.flatMap Mb.cs).drop (i*2)=D at*;have bv:IntKind.i64.wrap ((i:Int)+1)=(i:Int)+1:=by rw [IntKind.wrap_i64];omega
  have bu:((i:Int)+1).toNat=i+1:=by omega
  have bk:(0:Int)<=(i:Int)+1:=by omega
  have bn:(i:Int)<=(l.length:Int)+1:=by omega
  have mixed:prog.follows .mixedOrders=true:=by kernel_rfl
  by_cases hroom:l.length+1<=c
  ·have bf: ¬ (c:Int)< (l.length:Int)+1:=by omega
   have aM: ¬ (l.length:Int)+1 >(c:Int):=by omega
   have bm: ¬ (c=i+1):=by omega
   have bo: ¬ (c=i):=by omega
   obtain⟨U,L,au,I⟩:=Pd H.o (m:=l.length+1) (by omega) hroom;have ab:=(UA U (Mb.cs x) D i l.length 2 hi L O M).1;replace I:w.drew.ownsRow base 147 2 (.slice (some (aD g 0)) (l.length+1) c) (l.length+1) U:=I;have J:=XF D ((i+1)*2) I (by rw [M,L];omega)
   have K:=XF (Mb.cs x) (i*2) J (by rw [Vb,O,L];omega);rw [ab,ap U (by rw [<-au,List.take_take,Nat.min_eq_left (by omega)])] at K;rw [show (i+1)*2=i*2+2 from by omega] at J;rw [show (i+1)*2=i*2+2 from by omega] at K;have aT:=(ZJ H.o).2.2.1;have ad:Hid (QH base 147 2 Mb.cs l i x w (.returned (.slice (some (aD g 0)) (l.length+1) c)) (((w.drew.setCells g (i*2+2) D)).setCells g (i*2) (Mb.cs x))):=hid ⟨_,_,rfl,K,(br.drew.trans (ZF aV _ _)).trans (ZF aV _ _),((ZS.drew w).trans (ZS.setCells (by simp) (show Za w.drew g 147 from aT) _ _)).trans (ZS.setCells (by simp) (ZJ J).2.2.1 _ _)⟩;have ax: ∃ kB,w.shape? g=some (147,kB)/\kB≠0:=by
    obtain⟨e,nB,N,bd,_⟩:=World.shape?_of_cell? (ae 0 _ (List.getElem?_eq_getElem (by omega)))
    obtain⟨cs,fr,hT⟩:=aT;have:e=147:=by
     unfold World.shape? at N;rw [hT] at N;injection N with N
     injection N with N _
     exact N.symm
    exact⟨nB,by rw [N,this],by simp at bd;omega⟩
   obtain⟨kB,ax,bc⟩:=ax;have aY:w.shape? C=some (147,2):=by
    unfold World.shape?;rw [Z.o];simp [O]
   have be: ∀ lb cb,(callFunc 256 #[.slice (some (aD C 0)) 1 1,.slice (some (aD g (i*2+2))) lb cb]).run prog w= .ok (.value (.bool false)) w:=fun lb cb=>by
    rw [run_callFunc_extern func256 (by kernel_rfl) (by kernel_rfl) (by kernel_rfl) (e:=Extern.SlicesOverlaps.overlaps #[28,28] #[4]) (by kernel_rfl),
     Lib.run_overlaps_apart w 28 4 147 underlying28 2 (fun w=>by kernel_rfl) (aD C 0) (aD g (i*2+2)) 1 1 lb cb aZ 147 147 2 kB aY ax bc (Z.o.frozen 0) (Z.o.frozen 2)]
    rfl
   have am: ∀ s u sc,(Builtin.copy_ #[28,28] s #[.slice (some (aD g (i*2+2))) (l.length - i) u,.slice (some (aD g (i*2))) (l.length+1 - i) sc]).run prog w.drew= .ok (goInt ((l.length - i:Nat):Int)) (w.drew.setCells g (i*2+2) D):=fun s u sc=>
    XZ w.drew 28 28 s 147 g (i*2+2) (l.length - i) u (aD g (i*2)) (l.length+1 - i) sc (l.length - i) 2 D underlying28 ay (by simp only [Nat.min_def];split <;> omega) M (fun j v F=>by
     rw [Addr.add_lit];exact aS j v F) (Y8 H.o _ _ (by rw [M];omega)) aR
   obtain⟨d,V⟩: ∃ d,d=w.drew.setCells g (i*2+2) D:=⟨_,rfl⟩
   rw [<-V] at am J ad;have aj:ZP d C 147 (Mb.cs x):=by rw [V];exact(YZ w.drew g aZ _ _).trans Z.o
   have aH: ∀ s u,(Builtin.copy_ #[28,28] s #[.slice (some (aD g (i*2))) (l.length+1 - i) u,.slice (some (aD C 0)) 1 1]).run prog d= .ok (goInt 1) (d.setCells g (i*2) (Mb.cs x)):=fun s u=>
    XZ d 28 28 s 147 g (i*2) (l.length+1 - i) u (aD C 0) 1 1 1 2 (Mb.cs x) underlying28 ay (by simp only [Nat.min_def];split <;> omega) az (ZP.news aj) (Y8 J _ _ (by rw [O];omega)) (Mb.one x)
   clear I J K ab aY ax V aj L au;go_enter func191,ntmps191
   go_wp2_with (simp only [be]);go_region_law_o (refine step_copy_runI rfl _ _ 28 28 rfl _ _ (by simp [Act.eval,Act.put]) (by simp [Act.eval,Act.put]) (am _ _ _) ?_)
   go_wp2_with (at_builtin;refine wpList_copy_runI _ rfl _ _ 28 28 rfl _ _ rfl rfl (aH _ _) ?_);go_ret;exact ad.o
  ·obtain rfl:c=l.length:=by omega
   have bf:(l.length:Int)< (l.length:Int)+1:=by omega
   have aM:(l.length:Int)+1 >(l.length:Int):=by omega
   have aq:(Builtin.firstCells i0.size i (.slice (some (aD g 0)) i l.length)).run prog w.drew= .ok ((l.flatMap Mb.cs).take (i*2)).toArray w.drew:=by
    rw [av];exact run_firstCells_some w.drew 2 i (aD g 0) i l.length ((l.flatMap Mb.cs).take (i*2)) (by rw [List.length_take,ag];omega) (fun j v F=>by
     rw [Addr.add_lit,Nat.zero_add];rw [List.getElem?_take] at F;split at F
     ·exact ae j v F
     ·cases F)
   have aJ:i+ (l.length+1 - i)=l.length+1:=by omega
   have aW:(l.length:Int)+1 - (i:Int)=((l.length+1 - i:Nat):Int):=by omega
   obtain⟨G,hG⟩: ∃ G,G=grownCap w (l.length+1) l.length 147:=⟨_,rfl⟩
   obtain⟨E,af⟩: ∃ E:Array Value,E=((l.flatMap Mb.cs).take (i*2)).toArray ++Builtin.zeroCells (Value.cells (.agg #[s0,s0])) (l.length+1 - i) ++Builtin.zeroCells (Value.cells (.agg #[s0,s0])) (G - (l.length+1)):=⟨_,rfl⟩
   have a8:l.length+1<=G:=by rw [hG];exact grownCap_ge w _ _ _
   have ah:G<=maxLen:=by rw [hG];exact grownCap_le_maxLen w (l.length+1) l.length 147 (by unfold maxLen;omega)
   have aX: ∀ s,(Builtin.append_ #[28,3] s #[.slice (some (aD g 0)) i l.length,.int .i64 ((l.length:Int)+1 - (i:Int))]).run prog w= .ok (.slice (some (aN w 0)) (l.length+1) G) (w.drew.alloc (.cells E 147)):=fun s=>by
    have h:=Lib.run_append_grow_zeros w 28 3 s 147 i0 _ .i64 .i64 underlying28 underlying3 aw aP (some (aD g 0)) i l.length ((l.flatMap Mb.cs).take (i*2)) aq (l.length+1 - i) (by omega) (by rw [av];decide) (by omega) (by omega) (by rw [aA];omega) (by rw [aA,aJ];exact growslice_fits (by omega) (by omega));rw [aJ,<-hG,<-af] at h;rw [aW];exact h
   have aE:E.size=G*2:=by
    rw [af,Array.size_append,Array.size_append,Xt,Xt,List.size_toArray,List.length_take,ag,show (Value.cells (.agg #[s0,s0])).size=2 from rfl];omega
   have I:=Rk (T:=147) (k:=2) aa aE a8 ah;have L:(E.toList.take ((l.length+1)*2)).length=(l.length+1)*2:=by
    have h1:E.toList.length=E.size:=Array.length_toList;rw [List.length_take,h1,aE];omega
   have au:(E.toList.take ((l.length+1)*2)).take (i*2)=(l.flatMap Mb.cs).take (i*2):=by
    rw [List.take_take,Nat.min_eq_left (by omega),af];simp only [Array.toList_append,List.append_assoc];rw [List.take_append_of_le_length (by rw [List.length_take,ag];omega),List.take_take,Nat.min_self]
   generalize E.toList.take ((l.length+1)*2)=U at*;have ab:=(UA U (Mb.cs x) D i l.length 2 hi L O M).2;have ai:Below w.heap.size w (w.drew.alloc (.cells E 147)):=br.drew.alloc lr _;obtain⟨d,V⟩: ∃ d,d=w.drew.alloc (.cells E 147):=⟨_,rfl⟩
   rw [<-V] at I aX ai;have aj:ZP d C 147 (Mb.cs x):=Z.o.below ai aO;have J:=XF (Mb.cs x) (i*2) I (by rw [O,L];omega)
   have ac:(d.setCells w.heap.size (i*2) (Mb.cs x)).drew.ownsRow base 147 2 (.slice (some (aN w 0)) (l.length+1) G) (l.length+1) (XP U (i*2) (Mb.cs x)):=XX J;have K:=XF D ((i+1)*2) ac (by rw [Vb,M,L];omega)
   rw [ab,ap U au] at K;rw [show (i+1)*2=i*2+2 from by omega] at K;have aF:=(ZJ I).2.2.1;have aC:Below w.heap.size w (((d.setCells w.heap.size (i*2) (Mb.cs x)).drew).setCells w.heap.size (i*2+2) D):=((ai.trans (ZF lr _ _)).drew).trans (ZF lr _ _);have ad:Hid (QH base 147 2 Mb.cs l i x w (.returned (.slice (some (aN w 0)) (l.length+1) G)) (((d.setCells w.heap.size (i*2) (Mb.cs x)).drew).setCells w.heap.size (i*2+2) D)):=hid ⟨_,_,rfl,K,aC.mono aa,ZS.ZA aC lr⟩;have an: ∀ s u,(Builtin.copy_ #[28,28] s #[.slice (some (aN w (i*2))) (l.length+1 - i) u,.slice (some (aD C 0)) 1 1]).run prog d= .ok (goInt 1) (d.setCells w.heap.size (i*2) (Mb.cs x)):=fun s u=>
    XZ d 28 28 s 147 w.heap.size (i*2) (l.length+1 - i) u (aD C 0) 1 1 1 2 (Mb.cs x) underlying28 ay (by simp only [Nat.min_def];split <;> omega) az (ZP.news aj) (Y8 I _ _ (by rw [O];omega)) (Mb.one x)
   have ar: ∀ j v,D[j]?=some v->(d.setCells w.heap.size (i*2) (Mb.cs x)).drew.cell? (((aD g (i*2)):Addr).add j)=some v:=fun j v F=>by
    rw [Addr.add_lit];have h1:w.cell? (aD g (i*2+j))=some v:=aS j v F;have h2:Below w.heap.size w (d.setCells w.heap.size (i*2) (Mb.cs x)).drew:=(ai.trans (ZF lr _ _)).drew;exact ct h1 h2 ba
   have ao: ∀ s u sc,(Builtin.copy_ #[28,28] s #[.slice (some (aN w (i*2+2))) (l.length - i) u,.slice (some (aD g (i*2))) (l.length - i) sc]).run prog (d.setCells w.heap.size (i*2) (Mb.cs x)).drew= .ok (goInt ((l.length - i:Nat):Int)) ((d.setCells w.heap.size (i*2) (Mb.cs x)).drew.setCells w.heap.size (i*2+2) D):=fun s u sc=>
    XZ _ 28 28 s 147 w.heap.size (i*2+2) (l.length - i) u (aD g (i*2)) (l.length - i) sc (l.length - i) 2 D underlying28 ay (Nat.min_self _) M ar (Y8 ac _ _ (by rw [M];omega)) aR
   have bj: ¬ (G=i):=by omega
   have a7: ¬ (G=i+1):=by omega
   have bp: ¬ (l.length=i):=by omega
   have a6:G<=9223372036854775807:=ah;obtain⟨W2,aU⟩: ∃ W2,W2=d.setCells w.heap.size (i*2) (Mb.cs x):=⟨_,rfl⟩
   rw [<-aU] at an ao ad;clear aq aJ aW hG af aE I L au ab V aj J ac K aF aC ar ai aU ah;go_enter func191,ntmps191
   go_wp2_with (first
    |(at_builtin;refine Lib.wpList_append_run _ rfl _ _ _ _ rfl _ _ rfl rfl _ _ (aX _) ?_)
    |(at_builtin;refine wpList_copy_runI _ rfl _ _ 28 28 rfl _ _ rfl rfl (an _ _) ?_))
   go_region_law_o (refine step_copy_runI rfl _ _ 28 28 rfl _ _ (by simp [Act.eval,Act.put]) (by simp [Act.eval,Act.put]) (ao _ _ _) ?_)
   go_wp2;go_ret;exact ad.o
theorem Ko (base:Nat)(l:List lU)(A:oA)(c i:Nat)(x:lU)(C:Nat)(w:World)(h:w.ownsRow base 9 1 (.slice A l.length c) l.length (l.flatMap Yy))(hi:i<=l.length)(hx:ZP w C 9 (Yy x))(bg: ∀ g,A=some (aD g 0)->C≠g)(hl:l.length<=1099511627776)(ab:base<=w.heap.size):
  cQ 188 #[.slice A l.length c,i6 i,.slice (some (aD C 0)) 1 1] w (QH base 9 1 Yy l i x w):=by
 obtain⟨i0,aw,aP,av,aA⟩:=info_parts RV;have H:=hid h;have Z:=hid hx;have aQ:=hid (ZP.news hx);have az:(Yy x).length=1*1:=by rw [Yy.k]
 clear hx h;by_cases hin:i=l.length
 ·subst hin;have aL:l.take l.length ++x ::l.drop l.length=l ++ [x]:=by simp
  have HR:Hid (∀ A' c' w',w'.ownsRow base 9 1 (.slice A' (l.length+1) c') (l.length+1) (l.flatMap Yy ++Yy x)->w.grownBy w' (Value.slice A l.length c).ownBlock->QH base 9 1 Yy l l.length x w (.returned (.slice A' (l.length+1) c')) w'):=hid fun A' c' w' ho hg=>by
   refine⟨A',c',rfl,?_,br.grown hg ab (ZD H.o),ZS.grown H.o hg (by simp) hg.size⟩
   rw [aL,List.flatMap_append,List.flatMap_singleton];exact ho
  have bh:=H;rcases H.o.2 with ⟨h0,_⟩ | ⟨g,cap,bi,h0,_,_,_,_,_,_⟩
  ·injection h0 with e1 e2 e3
   obtain rfl:l= []:=List.eq_nil_of_length_eq_zero e2;subst e1 e3;go_enter func188,ntmps188
   go_wp2_with (at_builtin;refine Zb rfl _ _ _ rfl base 9 i0 _ 1 16 underlying27 aw aP av aA rfl (by decide) (sN) 0 _ rfl H.o (aD C 0) 1 1 (Yy x) rfl az aQ.o (Yy.one x) (by unfold maxLen;omega) (by omega) ab ?_;intro A3 c3 w3 aB aI)
   all_goals
    go_ret;exact HR.o _ _ _ aB.o aI.o
  ·injection h0 with e1 e2 e3
   subst e1;have aG:=(Yw H.o).1;have ak:=(Yw H.o).2;go_enter func188,ntmps188
   go_wp2_with (at_builtin;refine Zb rfl _ _ _ rfl base 9 i0 _ 1 16 underlying27 aw aP av aA rfl (by decide) (sl (some (aD g 0)) l c) l.length _ rfl H.o (aD C 0) 1 1 (Yy x) rfl az aQ.o (Yy.one x) (by unfold maxLen;omega) (by omega) ab ?_;intro A3 c3 w3 aB aI)
   all_goals
    go_ret;exact HR.o _ _ _ aB.o aI.o
 ·obtain⟨g,rfl⟩:=Xi H.o (by omega);have aZ:=bg g rfl;have aG:=(Yw H.o).1;have ak:=(Yw H.o).2;have aK: ¬ ((i:Int)=(l.length:Int)):=by omega
  have bb:((i:Int) ==(l.length:Int))=false:=by simpa using aK
  have bq:(i:Int)<=(l.length:Int):=by omega
  have ag:(l.flatMap Yy).length=l.length*1:=H.o.1;have M:((l.flatMap Yy).drop (i*1)).length=(l.length - i)*1:=by rw [List.length_drop,ag,<-Nat.sub_mul]
  have O:(Yy x).length=1:=Yy.k x;have aR: ∀ v∈(l.flatMap Yy).drop (i*1),v.oneCell'=true:=fun v hv=>Yg Yy.one l v (List.mem_of_mem_drop hv)
  have ay:(prog.info? 9).map (·.size)=some 1:=by rw [aw];simp [av]
  have ae:=(ZJ H.o).2.2.2.2;have ba:=(ZJ H.o).2.1;have aV:=(ZJ H.o).1;have aO:=Z.o.lt;have bs:(i+1)*1=i*1+1:=by omega
  have ap: ∀ zs:lV,zs.take (i*1)=(l.flatMap Yy).take (i*1)->zs.take (i*1) ++ (Yy x ++ (l.flatMap Yy).drop (i*1))=(l.take i ++x ::l.drop i).flatMap Yy:=fun zs h=>by rw [h,Pw Yy.k]
  have aS: ∀ j v,((l.flatMap Yy).drop (i*1))[j]?=some v->w.cell? (aD g (i+j))=some v:=fun j v F=>ae _ v (by rw [List.getElem?_drop] at F;simpa using F)
  generalize (l.flatMap Yy).drop (i*1)=D at*;have bv:IntKind.i64.wrap ((i:Int)+1)=(i:Int)+1:=by rw [IntKind.wrap_i64];omega
  have bu:((i:Int)+1).toNat=i+1:=by omega
  have bk:(0:Int)<=(i:Int)+1:=by omega
  have bn:(i:Int)<=(l.length:Int)+1:=by omega
  have mixed:prog.follows .mixedOrders=true:=by kernel_rfl
  by_cases hroom:l.length+1<=c
  ·have bf: ¬ (c:Int)< (l.length:Int)+1:=by omega
   have aM: ¬ (l.length:Int)+1 >(c:Int):=by omega
   have bm: ¬ (c=i+1):=by omega
   have bo: ¬ (c=i):=by omega
   obtain⟨U,L,au,J⟩:=Pd H.o (m:=l.length+1) (by omega) hroom;have ac:=(UA U (Yy x) D i l.length 1 hi L O M).1;replace J:w.drew.ownsRow base 9 1 (.slice (some (aD g 0)) (l.length+1) c) (l.length+1) U:=J;have I:=XF D ((i+1)*1) J (by rw [M,L];omega)
   have K:=XF (Yy x) (i*1) I (by rw [Vb,O,L];omega);rw [ac,ap U (by rw [<-au,List.take_take,Nat.min_eq_left (by omega)])] at K;rw [show (i+1)*1=i+1 from by omega] at I;rw [show (i+1)*1=i+1 from by omega,show i*1=i from by omega] at K;have aT:=(ZJ H.o).2.2.1;have ad:Hid (QH base 9 1 Yy l i x w (.returned (.slice (some (aD g 0)) (l.length+1) c)) (((w.drew.setCells g (i+1) D)).setCells g (i) (Yy x))):=hid ⟨_,_,rfl,K,(br.drew.trans (ZF aV _ _)).trans (ZF aV _ _),((ZS.drew w).trans (ZS.setCells (by simp) (show Za w.drew g 9 from aT) _ _)).trans (ZS.setCells (by simp) (ZJ I).2.2.1 _ _)⟩;have ax: ∃ kB,w.shape? g=some (9,kB)/\kB≠0:=by
    obtain⟨e,nB,N,bd,_⟩:=World.shape?_of_cell? (ae 0 _ (List.getElem?_eq_getElem (by omega)))
    obtain⟨cs,fr,hT⟩:=aT;have:e=9:=by
     unfold World.shape? at N;rw [hT] at N;injection N with N
     injection N with N _
     exact N.symm
    exact⟨nB,by rw [N,this],by simp at bd;omega⟩
   obtain⟨kB,ax,bc⟩:=ax;have aY:w.shape? C=some (9,1):=by
    unfold World.shape?;rw [Z.o];simp [O]
   have be: ∀ lb cb,(callFunc 254 #[.slice (some (aD C 0)) 1 1,.slice (some (aD g (i+1))) lb cb]).run prog w= .ok (.value (.bool false)) w:=fun lb cb=>by
    rw [run_callFunc_extern func254 (by kernel_rfl) (by kernel_rfl) (by kernel_rfl) (e:=Extern.SlicesOverlaps.overlaps #[27,27] #[4]) (by kernel_rfl),
     Lib.run_overlaps_apart w 27 4 9 underlying27 1 (fun w=>by kernel_rfl) (aD C 0) (aD g (i+1)) 1 1 lb cb aZ 9 9 1 kB aY ax bc (Z.o.frozen 0) (Z.o.frozen 1)]
    rfl
   have am: ∀ s u sc,(Builtin.copy_ #[27,27] s #[.slice (some (aD g (i+1))) (l.length - i) u,.slice (some (aD g i)) (l.length+1 - i) sc]).run prog w.drew= .ok (goInt ((l.length - i:Nat):Int)) (w.drew.setCells g (i+1) D):=fun s u sc=>
    XZ w.drew 27 27 s 9 g (i+1) (l.length - i) u (aD g i) (l.length+1 - i) sc (l.length - i) 1 D underlying27 ay (by simp only [Nat.min_def];split <;> omega) M (fun j v F=>by
     rw [Addr.add_lit];exact aS j v F) (Y8 H.o _ _ (by rw [M];omega)) aR
   obtain⟨d,V⟩: ∃ d,d=w.drew.setCells g (i+1) D:=⟨_,rfl⟩
   rw [<-V] at am I ad;have aj:ZP d C 9 (Yy x):=by rw [V];exact(YZ w.drew g aZ _ _).trans Z.o
   have aH: ∀ s u,(Builtin.copy_ #[27,27] s #[.slice (some (aD g i)) (l.length+1 - i) u,.slice (some (aD C 0)) 1 1]).run prog d= .ok (goInt 1) (d.setCells g (i) (Yy x)):=fun s u=>
    XZ d 27 27 s 9 g (i) (l.length+1 - i) u (aD C 0) 1 1 1 1 (Yy x) underlying27 ay (by simp only [Nat.min_def];split <;> omega) az (ZP.news aj) (Y8 I _ _ (by rw [O];omega)) (Yy.one x)
   clear J I K ac aY ax V aj L au;go_enter func188,ntmps188
   go_wp2_with (simp only [be]);go_region_law_o (refine step_copy_runI rfl _ _ 27 27 rfl _ _ (by simp [Act.eval,Act.put]) (by simp [Act.eval,Act.put]) (am _ _ _) ?_)
   go_wp2_with (at_builtin;refine wpList_copy_runI _ rfl _ _ 27 27 rfl _ _ rfl rfl (aH _ _) ?_);go_ret;exact ad.o
  ·obtain rfl:c=l.length:=by omega
   have bf:(l.length:Int)< (l.length:Int)+1:=by omega
   have aM:(l.length:Int)+1 >(l.length:Int):=by omega
   have aq:(Builtin.firstCells i0.size i (.slice (some (aD g 0)) i l.length)).run prog w.drew= .ok ((l.flatMap Yy).take (i*1)).toArray w.drew:=by
    rw [av];exact run_firstCells_some w.drew 1 i (aD g 0) i l.length ((l.flatMap Yy).take (i*1)) (by rw [List.length_take,ag];omega) (fun j v F=>by
     rw [Addr.add_lit,Nat.zero_add];rw [List.getElem?_take] at F;split at F
     ·exact ae j v F
     ·cases F)
   have aJ:i+ (l.length+1 - i)=l.length+1:=by omega
   have aW:(l.length:Int)+1 - (i:Int)=((l.length+1 - i:Nat):Int):=by omega
   obtain⟨G,hG⟩: ∃ G,G=grownCap w (l.length+1) l.length 9:=⟨_,rfl⟩
   obtain⟨E,af⟩: ∃ E:Array Value,E=((l.flatMap Yy).take (i*1)).toArray ++Builtin.zeroCells (Value.cells (s0)) (l.length+1 - i) ++Builtin.zeroCells (Value.cells (s0)) (G - (l.length+1)):=⟨_,rfl⟩
   have a8:l.length+1<=G:=by rw [hG];exact grownCap_ge w _ _ _
   have ah:G<=maxLen:=by rw [hG];exact grownCap_le_maxLen w (l.length+1) l.length 9 (by unfold maxLen;omega)
   have aX: ∀ s,(Builtin.append_ #[27,3] s #[.slice (some (aD g 0)) i l.length,.int .i64 ((l.length:Int)+1 - (i:Int))]).run prog w= .ok (.slice (some (aN w 0)) (l.length+1) G) (w.drew.alloc (.cells E 9)):=fun s=>by
    have h:=Lib.run_append_grow_zeros w 27 3 s 9 i0 _ .i64 .i64 underlying27 underlying3 aw aP (some (aD g 0)) i l.length ((l.flatMap Yy).take (i*1)) aq (l.length+1 - i) (by omega) (by rw [av];decide) (by omega) (by omega) (by rw [aA];omega) (by rw [aA,aJ];exact growslice_fits (by omega) (by omega));rw [aJ,<-hG,<-af] at h;rw [aW];exact h
   have aE:E.size=G*1:=by
    rw [af,Array.size_append,Array.size_append,Xt,Xt,List.size_toArray,List.length_take,ag,show (Value.cells (s0)).size=1 from rfl];omega
   have J:=Rk (T:=9) (k:=1) ab aE a8 ah;have L:(E.toList.take ((l.length+1)*1)).length=(l.length+1)*1:=by
    have h1:E.toList.length=E.size:=Array.length_toList;rw [List.length_take,h1,aE];omega
   have au:(E.toList.take ((l.length+1)*1)).take (i*1)=(l.flatMap Yy).take (i*1):=by
    rw [List.take_take,Nat.min_eq_left (by omega),af];simp only [Array.toList_append,List.append_assoc];rw [List.take_append_of_le_length (by rw [List.length_take,ag];omega),List.take_take,Nat.min_self]
   generalize E.toList.take ((l.length+1)*1)=U at*;have ac:=(UA U (Yy x) D i l.length 1 hi L O M).2;have ai:Below w.heap.size w (w.drew.alloc (.cells E 9)):=br.drew.alloc lr _;obtain⟨d,V⟩: ∃ d,d=w.drew.alloc (.cells E 9):=⟨_,rfl⟩
   rw [<-V] at J aX ai;have aj:ZP d C 9 (Yy x):=Z.o.below ai aO;have I:=XF (Yy x) (i*1) J (by rw [O,L];omega)
   have aa:(d.setCells w.heap.size (i*1) (Yy x)).drew.ownsRow base 9 1 (.slice (some (aN w 0)) (l.length+1) G) (l.length+1) (XP U (i*1) (Yy x)):=XX I;have K:=XF D ((i+1)*1) aa (by rw [Vb,M,L];omega)
   rw [ac,ap U au] at K;rw [show i*1=i from by omega] at I;rw [show i*1=i from by omega] at aa;rw [show (i+1)*1=i+1 from by omega,show i*1=i from by omega] at K;have aF:=(ZJ J).2.2.1;have aC:Below w.heap.size w (((d.setCells w.heap.size (i) (Yy x)).drew).setCells w.heap.size (i+1) D):=((ai.trans (ZF lr _ _)).drew).trans (ZF lr _ _);have ad:Hid (QH base 9 1 Yy l i x w (.returned (.slice (some (aN w 0)) (l.length+1) G)) (((d.setCells w.heap.size (i) (Yy x)).drew).setCells w.heap.size (i+1) D)):=hid ⟨_,_,rfl,K,aC.mono ab,ZS.ZA aC lr⟩;have an: ∀ s u,(Builtin.copy_ #[27,27] s #[.slice (some (aN w i)) (l.length+1 - i) u,.slice (some (aD C 0)) 1 1]).run prog d= .ok (goInt 1) (d.setCells w.heap.size (i) (Yy x)):=fun s u=>
    XZ d 27 27 s 9 w.heap.size (i) (l.length+1 - i) u (aD C 0) 1 1 1 1 (Yy x) underlying27 ay (by simp only [Nat.min_def];split <;> omega) az (ZP.news aj) (Y8 J _ _ (by rw [O];omega)) (Yy.one x)
   have ar: ∀ j v,D[j]?=some v->(d.setCells w.heap.size (i) (Yy x)).drew.cell? (((aD g i):Addr).add j)=some v:=fun j v F=>by
    rw [Addr.add_lit];have h1:w.cell? (aD g (i+j))=some v:=aS j v F;have h2:Below w.heap.size w (d.setCells w.heap.size (i) (Yy x)).drew:=(ai.trans (ZF lr _ _)).drew;exact ct h1 h2 ba
   have ao: ∀ s u sc,(Builtin.copy_ #[27,27] s #[.slice (some (aN w (i+1))) (l.length - i) u,.slice (some (aD g i)) (l.length - i) sc]).run prog (d.setCells w.heap.size (i) (Yy x)).drew= .ok (goInt ((l.length - i:Nat):Int)) ((d.setCells w.heap.size (i) (Yy x)).drew.setCells w.heap.size (i+1) D):=fun s u sc=>
    XZ _ 27 27 s 9 w.heap.size (i+1) (l.length - i) u (aD g i) (l.length - i) sc (l.length - i) 1 D underlying27 ay (Nat.min_self _) M ar (Y8 aa _ _ (by rw [M];omega)) aR
   have bj: ¬ (G=i):=by omega
   have a7: ¬ (G=i+1):=by omega
   have bp: ¬ (l.length=i):=by omega
   have a6:G<=9223372036854775807:=ah;obtain⟨W2,aU⟩: ∃ W2,W2=d.setCells w.heap.size (i) (Yy x):=⟨_,rfl⟩
   rw [<-aU] at an ao ad;clear aq aJ aW hG af aE J L au ac V aj I aa K aF aC ar ai aU ah;go_enter func188,ntmps188
   go_wp2_with (first
    |(at_builtin;refine Lib.wpList_append_run _ rfl _ _ _ _ rfl _ _ rfl rfl _ _ (aX _) ?_)
    |(at_builtin;refine wpList_copy_runI _ rfl _ _ 27 27 rfl _ _ rfl rfl (an _ _) ?_))
   go_region_law_o (refine step_copy_runI rfl _ _ 27 27 rfl _ _ (by simp [Act.eval,Act.put]) (by simp [Act.eval,Act.put]) (ao _ _ _) ?_)
   go_wp2;go_ret;exact ad.o
end Go.Proofs.YtnhmoibjlakhjaaGreat

/- Lemmas of the proof. No condition but each theorem's own. -/
import Derived.Test.YtnhmoibjlakhjaaGreatR30
import Derived.Test.YtnhmoibjlakhjaaGreatR18
import Derived.Test.YtnhmoibjlakhjaaGreatR03
import Derived.Test.YtnhmoibjlakhjaaGreatR10
set_option linter.unusedVariables false
set_option linter.unusedSimpArgs false
namespace Go.Proofs.YtnhmoibjlakhjaaGreat
open Lib (hid)
set_option maxRecDepth 100000
set_option maxHeartbeats 16000000
open Go.RowKit
def I5 (n:Nat)(w:World)(e:Ending)(w':World):Prop:= ∃ (i:Nat) (b:Bool),e= .returned (.tuple #[.int .i64 i,.bool b])∧i≤n∧(b=true→i<n)∧Below w.heap.size w w'
theorem Xh {α:Type}{enc:α→List Value}{k:Nat}(hk: ∀ x,(enc x).length=k){w:World}{B:Nat}{ad:Addr}{l:List α}(h: ∀ (i:Nat)(u:Value),(l.flatMap enc)[i]?=some u→w.cell? (ad.add i)=some u){j:Nat}(hj:j<l.length)(i:Nat)(hi:i<k)(u:Value)(hu:(enc l[j])[i]?=some u):w.cell? ((ad.add (j*k)).add i)=some u:=by
 rw [ZG];exact h _ _ (by rw [Zj hk l j i hj hi];exact hu)
theorem Mz (l:List Gr)(A:Option Addr)(c:Nat)(x:Gr)(w:World)(hA:Ze w w.heap.size A Gr.cs l)(hn:l.length≤1099511627776):
  Calls Tryz.prog 184 #[.slice A l.length c,.agg (x.cs).toArray,.func (.func 90) #[] #[]] w (I5 l.length w):=by
 have HA:=hid hA;have HX0:Hid (ZP (w.alloc (.cells #[.string (Z9 x.Z8),.string (Z9 x.ZY),.int .i64 x.right,.string (Z9 x.ZN),.string (Z9 x.to),.bool x.Zz] 53)) w.heap.size 53 [.string (Z9 x.Z8),.string (Z9 x.ZY),.int .i64 x.right,.string (Z9 x.ZN),.string (Z9 x.to),.bool x.Zz]):=hid (ZP.new w _ _);have HB0:Hid (Below w.heap.size w (w.alloc (.cells #[.string (Z9 x.Z8),.string (Z9 x.ZY),.int .i64 x.right,.string (Z9 x.ZN),.string (Z9 x.to),.bool x.Zz] 53))):=hid (br.alloc lr _);clear hA;unfold Gr.cs;go_enter Tryz.func184,Tryz.ntmps184
 go_wp2_with fail;go_loopw [9,10] (fun a b wr=> ∃ lo hi:Nat,a= .int .i64 lo∧b= .int .i64 hi∧lo≤hi∧hi≤l.length∧Hid (Below w.heap.size w wr)∧Hid (ZP wr w.heap.size 53 [.string (Z9 x.Z8),.string (Z9 x.ZY),.int .i64 x.right,.string (Z9 x.ZN),.string (Z9 x.to),.bool x.Zz])) (fun a b _=>(intOf b).toNat - (intOf a).toNat)
 case atStart=>exact⟨0,l.length,rfl,rfl,Nat.zero_le _,Nat.le_refl _,HB0,HX0⟩
 case round=>
  clear HB0 HX0;obtain⟨lo,hi,rfl,rfl,hlh,hin,HB,HX⟩:=hrel;by_cases hlt:lo<hi
  ·obtain⟨ad,rfl,hadl,hr⟩:=(HA.out.later HB.out) (by omega);have hmid:(lo+hi) / 2<l.length:=by omega
   have hc:=fun i hi u hu=>Xh (B:=wr.heap.size) Gr.k hr hmid i hi u hu
   generalize l[(lo+hi) / 2]=q at hc;have c0:wr.cell? (ad.add ((lo+hi) / 2*6))=some (.string (Z9 q.Z8)):=by have:=hc 0 (by omega) _ rfl;rwa [ZG,Nat.add_zero] at this
   have c1:wr.cell? ⟨(ad.add ((lo+hi) / 2*6)).block,(ad.add ((lo+hi) / 2*6)).off+1,none⟩=some (.string (Z9 q.ZY)):=by rw [←YH ad ((lo+hi) / 2*6) 1 (by omega),←ZG];exact hc 1 (by omega) _ rfl
   have c2:wr.cell? ⟨(ad.add ((lo+hi) / 2*6)).block,(ad.add ((lo+hi) / 2*6)).off+2,none⟩=some (.int .i64 q.right):=by rw [←YH ad ((lo+hi) / 2*6) 2 (by omega),←ZG];exact hc 2 (by omega) _ rfl
   have c3:wr.cell? ⟨(ad.add ((lo+hi) / 2*6)).block,(ad.add ((lo+hi) / 2*6)).off+3,none⟩=some (.string (Z9 q.ZN)):=by rw [←YH ad ((lo+hi) / 2*6) 3 (by omega),←ZG];exact hc 3 (by omega) _ rfl
   have c4:wr.cell? ⟨(ad.add ((lo+hi) / 2*6)).block,(ad.add ((lo+hi) / 2*6)).off+4,none⟩=some (.string (Z9 q.to)):=by rw [←YH ad ((lo+hi) / 2*6) 4 (by omega),←ZG];exact hc 4 (by omega) _ rfl
   have c5:wr.cell? ⟨(ad.add ((lo+hi) / 2*6)).block,(ad.add ((lo+hi) / 2*6)).off+5,none⟩=some (.bool q.Zz):=by rw [←YH ad ((lo+hi) / 2*6) 5 (by omega),←ZG];exact hc 5 (by omega) _ rfl
   have hadl:ad.block<wr.heap.size:=hadl;have hadl:(ad.add ((lo+hi) / 2*6)).block<wr.heap.size:=by rw [Zs];exact hadl
   have hS0:Hid (∀ W,Below wr.heap.size wr W→Below wr.heap.size wr W∧W.cell? (ad.add ((lo+hi) / 2*6))=some (.string (Z9 q.Z8))∧W.cell? ⟨(ad.add ((lo+hi) / 2*6)).block,(ad.add ((lo+hi) / 2*6)).off+1,none⟩=some (.string (Z9 q.ZY))∧W.cell? ⟨(ad.add ((lo+hi) / 2*6)).block,(ad.add ((lo+hi) / 2*6)).off+2,none⟩=some (.int .i64 q.right)∧W.cell? ⟨(ad.add ((lo+hi) / 2*6)).block,(ad.add ((lo+hi) / 2*6)).off+3,none⟩=some (.string (Z9 q.ZN))∧W.cell? ⟨(ad.add ((lo+hi) / 2*6)).block,(ad.add ((lo+hi) / 2*6)).off+4,none⟩=some (.string (Z9 q.to))∧W.cell? ⟨(ad.add ((lo+hi) / 2*6)).block,(ad.add ((lo+hi) / 2*6)).off+5,none⟩=some (.bool q.Zz)∧W.cell? ⟨w.heap.size,0,none⟩=some (.string (Z9 x.Z8))∧W.cell? ⟨w.heap.size,1,none⟩=some (.string (Z9 x.ZY))∧W.cell? ⟨w.heap.size,2,none⟩=some (.int .i64 x.right)∧W.cell? ⟨w.heap.size,3,none⟩=some (.string (Z9 x.ZN))∧W.cell? ⟨w.heap.size,4,none⟩=some (.string (Z9 x.to))∧W.cell? ⟨w.heap.size,5,none⟩=some (.bool x.Zz)):=hid fun W h=>⟨h,((h).cell hadl).trans c0,((h).cell (p:=⟨(ad.add ((lo+hi) / 2*6)).block,(ad.add ((lo+hi) / 2*6)).off+1,none⟩) hadl).trans c1,((h).cell (p:=⟨(ad.add ((lo+hi) / 2*6)).block,(ad.add ((lo+hi) / 2*6)).off+2,none⟩) hadl).trans c2,((h).cell (p:=⟨(ad.add ((lo+hi) / 2*6)).block,(ad.add ((lo+hi) / 2*6)).off+3,none⟩) hadl).trans c3,((h).cell (p:=⟨(ad.add ((lo+hi) / 2*6)).block,(ad.add ((lo+hi) / 2*6)).off+4,none⟩) hadl).trans c4,((h).cell (p:=⟨(ad.add ((lo+hi) / 2*6)).block,(ad.add ((lo+hi) / 2*6)).off+5,none⟩) hadl).trans c5,cb HX (h) 0,cb HX (h) 1,cb HX (h) 2,cb HX (h) 3,cb HX (h) 4,cb HX (h) 5⟩
   have cO:=fun W=>TC q x W
   simp only [Gr.cs] at cO;have hh1:(0:Int)≤((lo:Int)+ (hi:Int)) / 2:=by omega
   have hh2:((lo:Int)+ (hi:Int)) / 2< (l.length:Int):=by omega
   have hh3:(((lo:Int)+ (hi:Int)) / 2).toNat=(lo+hi) / 2:=by omega
   clear hc hr c0 c1 c2 c3 c4 c5;go_wp2_with fail;refine wp_region_held_drew (S:=fun w'=>Below wr.heap.size wr w'∧w'.cell? (ad.add ((lo+hi) / 2*6))=some (.string (Z9 q.Z8))∧w'.cell? ⟨(ad.add ((lo+hi) / 2*6)).block,(ad.add ((lo+hi) / 2*6)).off+1,none⟩=some (.string (Z9 q.ZY))∧w'.cell? ⟨(ad.add ((lo+hi) / 2*6)).block,(ad.add ((lo+hi) / 2*6)).off+2,none⟩=some (.int .i64 q.right)∧w'.cell? ⟨(ad.add ((lo+hi) / 2*6)).block,(ad.add ((lo+hi) / 2*6)).off+3,none⟩=some (.string (Z9 q.ZN))∧w'.cell? ⟨(ad.add ((lo+hi) / 2*6)).block,(ad.add ((lo+hi) / 2*6)).off+4,none⟩=some (.string (Z9 q.to))∧w'.cell? ⟨(ad.add ((lo+hi) / 2*6)).block,(ad.add ((lo+hi) / 2*6)).off+5,none⟩=some (.bool q.Zz)∧w'.cell? ⟨w.heap.size,0,none⟩=some (.string (Z9 x.Z8))∧w'.cell? ⟨w.heap.size,1,none⟩=some (.string (Z9 x.ZY))∧w'.cell? ⟨w.heap.size,2,none⟩=some (.int .i64 x.right)∧w'.cell? ⟨w.heap.size,3,none⟩=some (.string (Z9 x.ZN))∧w'.cell? ⟨w.heap.size,4,none⟩=some (.string (Z9 x.to))∧w'.cell? ⟨w.heap.size,5,none⟩=some (.bool x.Zz)) (by kernel_rfl) (hS0.out _ br.drew) (fun HD=> ?_)
   (try simp only [pp]);refine tk 0 24 HD ?_;refine tk 1 25 HD ?_;refine tk 2 26 HD ?_;refine tk 3 27 HD ?_;refine tk 4 28 HD ?_;refine tk 5 29 HD ?_;refine on 6 30 fun K hK=> ?_
   go_simp;refine(cO _).mono ?_
   rintro e w3 ⟨rfl,hm⟩;have hbv:=HD.1.trans (hm.below.mono HD.1.size);refine hK.out _ _ (hS0.out _ hbv) (fun HD=> ?_);clear hm hbv;clear hK K;(try simp only [pp])
   refine tk 7 31 HD ?_;refine wpAnyH_done (by kernel_rfl) ?_ _
   have HBz:=bt HB HD.1;have HXz:=bl HX HD.1;clear HD hS0 cO;generalize TD q x=r at*;by_cases hr0:r<0
   ·go_wp2;go_roundw
    case rel=>exact⟨(lo+hi) / 2+1,hi,by rw [show ((lo:Int)+ (hi:Int)) / 2+1=(((lo+hi) / 2+1:Nat):Int) by omega],rfl,by omega,hin,HBz,HXz⟩
    case measure=>simp [intOf];omega
   ·go_wp2;go_roundw
    case rel=>exact⟨lo,(lo+hi) / 2,rfl,by rw [show ((lo:Int)+ (hi:Int)) / 2=(((lo+hi) / 2:Nat):Int) by omega],by omega,by omega,HBz,HXz⟩
    case measure=>simp [intOf];omega
  ·obtain rfl:hi=lo:=by omega
   by_cases hlo:hi<l.length
   ·obtain⟨ad,rfl,hadl,hr⟩:=(HA.out.later HB.out) (by omega);have hc:=fun i h2 u hu=>Xh (B:=wr.heap.size) Gr.k hr hlo i h2 u hu
    generalize l[hi]=q at hc;have c0:wr.cell? (ad.add (hi*6))=some (.string (Z9 q.Z8)):=by have:=hc 0 (by omega) _ rfl;rwa [ZG,Nat.add_zero] at this
    have c1:wr.cell? ⟨(ad.add (hi*6)).block,(ad.add (hi*6)).off+1,none⟩=some (.string (Z9 q.ZY)):=by rw [←YH ad (hi*6) 1 (by omega),←ZG];exact hc 1 (by omega) _ rfl
    have c2:wr.cell? ⟨(ad.add (hi*6)).block,(ad.add (hi*6)).off+2,none⟩=some (.int .i64 q.right):=by rw [←YH ad (hi*6) 2 (by omega),←ZG];exact hc 2 (by omega) _ rfl
    have c3:wr.cell? ⟨(ad.add (hi*6)).block,(ad.add (hi*6)).off+3,none⟩=some (.string (Z9 q.ZN)):=by rw [←YH ad (hi*6) 3 (by omega),←ZG];exact hc 3 (by omega) _ rfl
    have c4:wr.cell? ⟨(ad.add (hi*6)).block,(ad.add (hi*6)).off+4,none⟩=some (.string (Z9 q.to)):=by rw [←YH ad (hi*6) 4 (by omega),←ZG];exact hc 4 (by omega) _ rfl
    have c5:wr.cell? ⟨(ad.add (hi*6)).block,(ad.add (hi*6)).off+5,none⟩=some (.bool q.Zz):=by rw [←YH ad (hi*6) 5 (by omega),←ZG];exact hc 5 (by omega) _ rfl
    have hadl:ad.block<wr.heap.size:=hadl;have hadl:(ad.add (hi*6)).block<wr.heap.size:=by rw [Zs];exact hadl
    have hS0:Hid (∀ W,Below wr.heap.size wr W→Below wr.heap.size wr W∧W.cell? (ad.add (hi*6))=some (.string (Z9 q.Z8))∧W.cell? ⟨(ad.add (hi*6)).block,(ad.add (hi*6)).off+1,none⟩=some (.string (Z9 q.ZY))∧W.cell? ⟨(ad.add (hi*6)).block,(ad.add (hi*6)).off+2,none⟩=some (.int .i64 q.right)∧W.cell? ⟨(ad.add (hi*6)).block,(ad.add (hi*6)).off+3,none⟩=some (.string (Z9 q.ZN))∧W.cell? ⟨(ad.add (hi*6)).block,(ad.add (hi*6)).off+4,none⟩=some (.string (Z9 q.to))∧W.cell? ⟨(ad.add (hi*6)).block,(ad.add (hi*6)).off+5,none⟩=some (.bool q.Zz)∧W.cell? ⟨w.heap.size,0,none⟩=some (.string (Z9 x.Z8))∧W.cell? ⟨w.heap.size,1,none⟩=some (.string (Z9 x.ZY))∧W.cell? ⟨w.heap.size,2,none⟩=some (.int .i64 x.right)∧W.cell? ⟨w.heap.size,3,none⟩=some (.string (Z9 x.ZN))∧W.cell? ⟨w.heap.size,4,none⟩=some (.string (Z9 x.to))∧W.cell? ⟨w.heap.size,5,none⟩=some (.bool x.Zz)):=hid fun W h=>⟨h,((h).cell hadl).trans c0,((h).cell (p:=⟨(ad.add (hi*6)).block,(ad.add (hi*6)).off+1,none⟩) hadl).trans c1,((h).cell (p:=⟨(ad.add (hi*6)).block,(ad.add (hi*6)).off+2,none⟩) hadl).trans c2,((h).cell (p:=⟨(ad.add (hi*6)).block,(ad.add (hi*6)).off+3,none⟩) hadl).trans c3,((h).cell (p:=⟨(ad.add (hi*6)).block,(ad.add (hi*6)).off+4,none⟩) hadl).trans c4,((h).cell (p:=⟨(ad.add (hi*6)).block,(ad.add (hi*6)).off+5,none⟩) hadl).trans c5,cb HX (h) 0,cb HX (h) 1,cb HX (h) 2,cb HX (h) 3,cb HX (h) 4,cb HX (h) 5⟩
    have cO:=fun W=>TC q x W
    simp only [Gr.cs] at cO;have hh1:(0:Int)≤(hi:Int):=by omega
    have hh2:(hi:Int)< (l.length:Int):=by omega
    clear hc hr c0 c1 c2 c3 c4 c5;go_wp2_with fail;refine wp_region_held_drew (S:=fun w'=>Below wr.heap.size wr w'∧w'.cell? (ad.add (hi*6))=some (.string (Z9 q.Z8))∧w'.cell? ⟨(ad.add (hi*6)).block,(ad.add (hi*6)).off+1,none⟩=some (.string (Z9 q.ZY))∧w'.cell? ⟨(ad.add (hi*6)).block,(ad.add (hi*6)).off+2,none⟩=some (.int .i64 q.right)∧w'.cell? ⟨(ad.add (hi*6)).block,(ad.add (hi*6)).off+3,none⟩=some (.string (Z9 q.ZN))∧w'.cell? ⟨(ad.add (hi*6)).block,(ad.add (hi*6)).off+4,none⟩=some (.string (Z9 q.to))∧w'.cell? ⟨(ad.add (hi*6)).block,(ad.add (hi*6)).off+5,none⟩=some (.bool q.Zz)∧w'.cell? ⟨w.heap.size,0,none⟩=some (.string (Z9 x.Z8))∧w'.cell? ⟨w.heap.size,1,none⟩=some (.string (Z9 x.ZY))∧w'.cell? ⟨w.heap.size,2,none⟩=some (.int .i64 x.right)∧w'.cell? ⟨w.heap.size,3,none⟩=some (.string (Z9 x.ZN))∧w'.cell? ⟨w.heap.size,4,none⟩=some (.string (Z9 x.to))∧w'.cell? ⟨w.heap.size,5,none⟩=some (.bool x.Zz)) (by kernel_rfl) (hS0.out _ br.drew) (fun HD=> ?_)
    (try simp only [pp]);refine tk 0 35 HD ?_;refine tk 1 36 HD ?_;refine tk 2 37 HD ?_;refine tk 3 38 HD ?_;refine tb 4 39 (.bool true) HD ?_;refine tk 5 40 HD ?_;refine tk 6 41 HD ?_;refine tk 7 42 HD ?_;refine tk 8 43 HD ?_;refine tk 9 44 HD ?_;refine tk 10 45 HD ?_;refine on 11 46 fun K hK=> ?_
    go_simp;refine(cO _).mono ?_
    rintro e w3 ⟨rfl,hm⟩;have hbv:=HD.1.trans (hm.below.mono HD.1.size);refine hK.out _ _ (hS0.out _ hbv) (fun HD=> ?_);clear hm hbv;clear hK K;(try simp only [pp])
    refine tk 12 47 HD ?_;refine tk 13 48 HD ?_;refine tk 14 6 HD ?_;refine tk 15 7 HD ?_;refine wpAnyH_done (by kernel_rfl) ?_ _
    have HBz:=bt HB HD.1;clear HD hS0 cO;go_wp2;go_ret2;exact⟨hi,_,rfl,hin,fun _=>hlo,HBz.out⟩
   ·have hh2: ¬ (hi:Int)< (l.length:Int):=by omega
    go_wp2_with fail;refine wp_region_held_drew (S:=fun w'=>Below wr.heap.size wr w') (by kernel_rfl) (br.drew) (fun HD=> ?_)
    (try simp only [pp]);refine tk 0 35 HD ?_;refine tk 1 36 HD ?_;refine tk 2 37 HD ?_;refine tk 3 38 HD ?_;refine tb 4 39 (.bool false) HD ?_;refine sk 5 40 HD ?_;refine sk 6 41 HD ?_;refine sk 7 42 HD ?_;refine sk 8 43 HD ?_;refine sk 9 44 HD ?_;refine sk 10 45 HD ?_;refine sk 11 46 HD ?_;refine sk 12 47 HD ?_;refine tk 13 48 HD ?_;refine tk 14 6 HD ?_;refine tk 15 7 HD ?_;refine wpAnyH_done (by kernel_rfl) ?_ _
    have HBz:=bt HB HD;clear HD;go_wp2;go_ret2;exact⟨hi,_,rfl,hin,fun h=>absurd h (by simp),HBz.out⟩
theorem Si (l:List Mb)(A:Option Addr)(c:Nat)(x:Mb)(w:World)(hA:Ze w w.heap.size A Mb.cs l)(hn:l.length≤1099511627776):
  Calls Tryz.prog 190 #[.slice A l.length c,.agg (x.cs).toArray,.func (.func 153) #[] #[]] w (I5 l.length w):=by
 have HA:=hid hA;have HX0:Hid (ZP (w.alloc (.cells #[.string (Z9 x.ZT),.string (Z9 x.of)] 147)) w.heap.size 147 [.string (Z9 x.ZT),.string (Z9 x.of)]):=hid (ZP.new w _ _);have HB0:Hid (Below w.heap.size w (w.alloc (.cells #[.string (Z9 x.ZT),.string (Z9 x.of)] 147))):=hid (br.alloc lr _);clear hA;unfold Mb.cs;go_enter Tryz.func190,Tryz.ntmps190
 go_wp2_with fail;go_loopw [9,10] (fun a b wr=> ∃ lo hi:Nat,a= .int .i64 lo∧b= .int .i64 hi∧lo≤hi∧hi≤l.length∧Hid (Below w.heap.size w wr)∧Hid (ZP wr w.heap.size 147 [.string (Z9 x.ZT),.string (Z9 x.of)])) (fun a b _=>(intOf b).toNat - (intOf a).toNat)
 case atStart=>exact⟨0,l.length,rfl,rfl,Nat.zero_le _,Nat.le_refl _,HB0,HX0⟩
 case round=>
  clear HB0 HX0;obtain⟨lo,hi,rfl,rfl,hlh,hin,HB,HX⟩:=hrel;by_cases hlt:lo<hi
  ·obtain⟨ad,rfl,hadl,hr⟩:=(HA.out.later HB.out) (by omega);have hmid:(lo+hi) / 2<l.length:=by omega
   have hc:=fun i hi u hu=>Xh (B:=wr.heap.size) Mb.k hr hmid i hi u hu
   generalize l[(lo+hi) / 2]=q at hc;have c0:wr.cell? (ad.add ((lo+hi) / 2*2))=some (.string (Z9 q.ZT)):=by have:=hc 0 (by omega) _ rfl;rwa [ZG,Nat.add_zero] at this
   have c1:wr.cell? ⟨(ad.add ((lo+hi) / 2*2)).block,(ad.add ((lo+hi) / 2*2)).off+1,none⟩=some (.string (Z9 q.of)):=by rw [←YH ad ((lo+hi) / 2*2) 1 (by omega),←ZG];exact hc 1 (by omega) _ rfl
   have hadl:ad.block<wr.heap.size:=hadl;have hadl:(ad.add ((lo+hi) / 2*2)).block<wr.heap.size:=by rw [Zs];exact hadl
   have hS0:Hid (∀ W,Below wr.heap.size wr W→Below wr.heap.size wr W∧W.cell? (ad.add ((lo+hi) / 2*2))=some (.string (Z9 q.ZT))∧W.cell? ⟨(ad.add ((lo+hi) / 2*2)).block,(ad.add ((lo+hi) / 2*2)).off+1,none⟩=some (.string (Z9 q.of))∧W.cell? ⟨w.heap.size,0,none⟩=some (.string (Z9 x.ZT))∧W.cell? ⟨w.heap.size,1,none⟩=some (.string (Z9 x.of))):=hid fun W h=>⟨h,((h).cell hadl).trans c0,((h).cell (p:=⟨(ad.add ((lo+hi) / 2*2)).block,(ad.add ((lo+hi) / 2*2)).off+1,none⟩) hadl).trans c1,cb HX (h) 0,cb HX (h) 1⟩
   have cO:=fun W=>Tv q x W
   simp only [Mb.cs] at cO;have hh1:(0:Int)≤((lo:Int)+ (hi:Int)) / 2:=by omega
   have hh2:((lo:Int)+ (hi:Int)) / 2< (l.length:Int):=by omega
   have hh3:(((lo:Int)+ (hi:Int)) / 2).toNat=(lo+hi) / 2:=by omega
   clear hc hr c0 c1;go_wp2_with fail;refine wp_region_held_drew (S:=fun w'=>Below wr.heap.size wr w'∧w'.cell? (ad.add ((lo+hi) / 2*2))=some (.string (Z9 q.ZT))∧w'.cell? ⟨(ad.add ((lo+hi) / 2*2)).block,(ad.add ((lo+hi) / 2*2)).off+1,none⟩=some (.string (Z9 q.of))∧w'.cell? ⟨w.heap.size,0,none⟩=some (.string (Z9 x.ZT))∧w'.cell? ⟨w.heap.size,1,none⟩=some (.string (Z9 x.of))) (by kernel_rfl) (hS0.out _ br.drew) (fun HD=> ?_)
   (try simp only [pp]);refine tk 0 24 HD ?_;refine tk 1 25 HD ?_;refine tk 2 26 HD ?_;refine tk 3 27 HD ?_;refine tk 4 28 HD ?_;refine tk 5 29 HD ?_;refine on 6 30 fun K hK=> ?_
   go_simp;refine(cO _).mono ?_
   rintro e w3 ⟨rfl,hm⟩;have hbv:=HD.1.trans (hm.below.mono HD.1.size);refine hK.out _ _ (hS0.out _ hbv) (fun HD=> ?_);clear hm hbv;clear hK K;(try simp only [pp])
   refine tk 7 31 HD ?_;refine wpAnyH_done (by kernel_rfl) ?_ _
   have HBz:=bt HB HD.1;have HXz:=bl HX HD.1;clear HD hS0 cO;generalize X3 q x=r at*;by_cases hr0:r<0
   ·go_wp2;go_roundw
    case rel=>exact⟨(lo+hi) / 2+1,hi,by rw [show ((lo:Int)+ (hi:Int)) / 2+1=(((lo+hi) / 2+1:Nat):Int) by omega],rfl,by omega,hin,HBz,HXz⟩
    case measure=>simp [intOf];omega
   ·go_wp2;go_roundw
    case rel=>exact⟨lo,(lo+hi) / 2,rfl,by rw [show ((lo:Int)+ (hi:Int)) / 2=(((lo+hi) / 2:Nat):Int) by omega],by omega,by omega,HBz,HXz⟩
    case measure=>simp [intOf];omega
  ·obtain rfl:hi=lo:=by omega
   by_cases hlo:hi<l.length
   ·obtain⟨ad,rfl,hadl,hr⟩:=(HA.out.later HB.out) (by omega);have hc:=fun i h2 u hu=>Xh (B:=wr.heap.size) Mb.k hr hlo i h2 u hu
    generalize l[hi]=q at hc;have c0:wr.cell? (ad.add (hi*2))=some (.string (Z9 q.ZT)):=by have:=hc 0 (by omega) _ rfl;rwa [ZG,Nat.add_zero] at this
    have c1:wr.cell? ⟨(ad.add (hi*2)).block,(ad.add (hi*2)).off+1,none⟩=some (.string (Z9 q.of)):=by rw [←YH ad (hi*2) 1 (by omega),←ZG];exact hc 1 (by omega) _ rfl
    have hadl:ad.block<wr.heap.size:=hadl;have hadl:(ad.add (hi*2)).block<wr.heap.size:=by rw [Zs];exact hadl
    have hS0:Hid (∀ W,Below wr.heap.size wr W→Below wr.heap.size wr W∧W.cell? (ad.add (hi*2))=some (.string (Z9 q.ZT))∧W.cell? ⟨(ad.add (hi*2)).block,(ad.add (hi*2)).off+1,none⟩=some (.string (Z9 q.of))∧W.cell? ⟨w.heap.size,0,none⟩=some (.string (Z9 x.ZT))∧W.cell? ⟨w.heap.size,1,none⟩=some (.string (Z9 x.of))):=hid fun W h=>⟨h,((h).cell hadl).trans c0,((h).cell (p:=⟨(ad.add (hi*2)).block,(ad.add (hi*2)).off+1,none⟩) hadl).trans c1,cb HX (h) 0,cb HX (h) 1⟩
    have cO:=fun W=>Tv q x W
    simp only [Mb.cs] at cO;have hh1:(0:Int)≤(hi:Int):=by omega
    have hh2:(hi:Int)< (l.length:Int):=by omega
    clear hc hr c0 c1;go_wp2_with fail;refine wp_region_held_drew (S:=fun w'=>Below wr.heap.size wr w'∧w'.cell? (ad.add (hi*2))=some (.string (Z9 q.ZT))∧w'.cell? ⟨(ad.add (hi*2)).block,(ad.add (hi*2)).off+1,none⟩=some (.string (Z9 q.of))∧w'.cell? ⟨w.heap.size,0,none⟩=some (.string (Z9 x.ZT))∧w'.cell? ⟨w.heap.size,1,none⟩=some (.string (Z9 x.of))) (by kernel_rfl) (hS0.out _ br.drew) (fun HD=> ?_)
    (try simp only [pp]);refine tk 0 35 HD ?_;refine tk 1 36 HD ?_;refine tk 2 37 HD ?_;refine tk 3 38 HD ?_;refine tb 4 39 (.bool true) HD ?_;refine tk 5 40 HD ?_;refine tk 6 41 HD ?_;refine tk 7 42 HD ?_;refine tk 8 43 HD ?_;refine tk 9 44 HD ?_;refine tk 10 45 HD ?_;refine on 11 46 fun K hK=> ?_
    go_simp;refine(cO _).mono ?_
    rintro e w3 ⟨rfl,hm⟩;have hbv:=HD.1.trans (hm.below.mono HD.1.size);refine hK.out _ _ (hS0.out _ hbv) (fun HD=> ?_);clear hm hbv;clear hK K;(try simp only [pp])
    refine tk 12 47 HD ?_;refine tk 13 48 HD ?_;refine tk 14 6 HD ?_;refine tk 15 7 HD ?_;refine wpAnyH_done (by kernel_rfl) ?_ _
    have HBz:=bt HB HD.1;clear HD hS0 cO;go_wp2;go_ret2;exact⟨hi,_,rfl,hin,fun _=>hlo,HBz.out⟩
   ·have hh2: ¬ (hi:Int)< (l.length:Int):=by omega
    go_wp2_with fail;refine wp_region_held_drew (S:=fun w'=>Below wr.heap.size wr w') (by kernel_rfl) (br.drew) (fun HD=> ?_)
    (try simp only [pp]);refine tk 0 35 HD ?_;refine tk 1 36 HD ?_;refine tk 2 37 HD ?_;refine tk 3 38 HD ?_;refine tb 4 39 (.bool false) HD ?_;refine sk 5 40 HD ?_;refine sk 6 41 HD ?_;refine sk 7 42 HD ?_;refine sk 8 43 HD ?_;refine sk 9 44 HD ?_;refine sk 10 45 HD ?_;refine sk 11 46 HD ?_;refine sk 12 47 HD ?_;refine tk 13 48 HD ?_;refine tk 14 6 HD ?_;refine tk 15 7 HD ?_;refine wpAnyH_done (by kernel_rfl) ?_ _
    have HBz:=bt HB HD;clear HD;go_wp2;go_ret2;exact⟨hi,_,rfl,hin,fun h=>absurd h (by simp),HBz.out⟩
theorem Lp (s:List UInt8)(w:World):Calls Tryz.prog 271 #[.string (Z9 s)] w fun e w'=>e= .returned (.bool false)∧w'=w:=by
 go_enter Tryz.func271,Tryz.ntmps271
 go_wp2;go_ret;exact⟨by simp,rfl⟩
theorem Lo (s:List UInt8)(w:World):Calls Tryz.prog 249 #[.string (Z9 s)] w fun e w'=>e= .returned (.bool false)∧w'=w:=by
 go_enter Tryz.func249,Tryz.ntmps249
 go_wp2;go_ret;exact⟨by simp,rfl⟩
theorem Ls (s t:List UInt8)(w:World):Calls Tryz.prog 248 #[.string (Z9 s),.string (Z9 t)] w fun e w'=>(∃ b,e= .returned (.bool b))∧w'=w:=by
 go_enter Tryz.func248,Tryz.ntmps248
 go_wp2_with fail;refine(Lp s w).mono ?_
 rintro e w1 ⟨rfl,rfl⟩;go_wp2;go_ret;exact⟨⟨_,rfl⟩,rfl⟩
theorem LL (l:List (List UInt8))(A:Option Addr)(c:Nat)(x:List UInt8)(w:World)(hA:Ze w w.heap.size A YS l)(hn:l.length≤1099511627776):
  Calls Tryz.prog 180 #[.slice A l.length c,.string (Z9 x)] w (I5 l.length w):=by
 have HA:=hid hA;clear hA;go_enter Tryz.func180,Tryz.ntmps180
 go_wp2_with fail;go_loopw [7,8] (fun a b wr=> ∃ lo hi:Nat,a= .int .i64 lo∧b= .int .i64 hi∧lo≤hi∧hi≤l.length∧Hid (Below w.heap.size w wr)) (fun a b _=>(intOf b).toNat - (intOf a).toNat)
 case atStart=>exact⟨0,l.length,rfl,rfl,Nat.zero_le _,Nat.le_refl _,hid br⟩
 case round=>
  obtain⟨lo,hi,rfl,rfl,hlh,hin,HB⟩:=hrel;by_cases hlt:lo<hi
  ·obtain⟨ad,rfl,hadl,hr⟩:=(HA.out.later HB.out) (by omega);have hmid:(lo+hi) / 2<l.length:=by omega
   have hc:=Xh (B:=wr.heap.size) YS.k hr hmid 0 (by omega) _ rfl;rw [ZG,Nat.add_zero,Nat.mul_one] at hc;generalize l[(lo+hi) / 2]=q at hc;have hh1:(0:Int)≤((lo:Int)+ (hi:Int)) / 2:=by omega
   have hh2:((lo:Int)+ (hi:Int)) / 2< (l.length:Int):=by omega
   have hh3:(((lo:Int)+ (hi:Int)) / 2).toNat=(lo+hi) / 2:=by omega
   clear hr;go_wp2_with fail;refine(Ls q x wr).mono ?_
   rintro e w1 ⟨⟨b,rfl⟩,rfl⟩
   cases b
   ·go_wp2;go_roundw
    case rel=>exact⟨lo,(lo+hi) / 2,rfl,by rw [show ((lo:Int)+ (hi:Int)) / 2=(((lo+hi) / 2:Nat):Int) by omega],by omega,by omega,HB⟩
    case measure=>simp [intOf];omega
   ·go_wp2;go_roundw
    case rel=>exact⟨(lo+hi) / 2+1,hi,by rw [show ((lo:Int)+ (hi:Int)) / 2+1=(((lo+hi) / 2+1:Nat):Int) by omega],rfl,by omega,hin,HB⟩
    case measure=>simp [intOf];omega
  ·obtain rfl:hi=lo:=by omega
   by_cases hlo:hi<l.length
   ·obtain⟨ad,rfl,hadl,hr⟩:=(HA.out.later HB.out) (by omega);have hc:=Xh (B:=wr.heap.size) YS.k hr hlo 0 (by omega) _ rfl;rw [ZG,Nat.add_zero,Nat.mul_one] at hc;generalize l[hi]=q at hc;have hh1:(0:Int)≤(hi:Int):=by omega
    have hh2:(hi:Int)< (l.length:Int):=by omega
    clear hr
    cases hqx:(q == x)
    ·go_wp2_with fail;refine(Lo q wr).mono ?_
     rintro e w1 ⟨rfl,rfl⟩;go_wp2;go_ret2;exact⟨hi,_,rfl,hin,fun _=>hlo,HB.out⟩
    ·go_wp2;go_ret2;exact⟨hi,_,rfl,hin,fun _=>hlo,HB.out⟩
   ·have hh2: ¬ (hi:Int)< (l.length:Int):=by omega
    go_wp2;go_ret2;exact⟨hi,_,rfl,hin,fun h=>absurd h (by simp),HB.out⟩
end Go.Proofs.YtnhmoibjlakhjaaGreat

/- Lemmas, each under its own conditions. -/
import Derived.Test.YtnhmoibjlakhjaaGreatW29
set_option linter.all false
namespace Go.Proofs.YtnhmoibjlakhjaaGreat
open Go.Proofs.Tryz
open Lib (hid)
set_option maxRecDepth 100000
set_option maxHeartbeats 16000000
open Go.RowKit
theorem GT (s:List UInt8)(w:World):Calls prog 271 #[.string (Z2 s)] w fun e w'=>e= .returned (.bool false)/\w'=w:=by
 go_enter func271,ntmps271
 go_wp2;go_ret;exact⟨by simp,rfl⟩
theorem GS (s:List UInt8)(w:World):Calls prog 249 #[.string (Z2 s)] w fun e w'=>e= .returned (.bool false)/\w'=w:=by
 go_enter func249,ntmps249
 go_wp2;go_ret;exact⟨by simp,rfl⟩
theorem Ha (s t:List UInt8)(w:World):Calls prog 248 #[.string (Z2 s),.string (Z2 t)] w fun e w'=>(∃ b,e= .returned (.bool b))/\w'=w:=by
 go_enter func248,ntmps248
 go_wp2_with fail;refine(GT s w).mono ?_
 rintro e d ⟨rfl,rfl⟩;go_wp2;go_ret;exact⟨⟨_,rfl⟩,rfl⟩
theorem Ic (l:List (List UInt8))(A:Option Addr)(c:Nat)(x:List UInt8)(w:World)(F:Zj w w.heap.size A Yy l)(O:l.length<=1099511627776):
  Calls prog 180 #[.slice A l.length c,.string (Z2 x)] w (D3 l.length w):=by
 have E:=hid F;clear F;go_enter func180,ntmps180
 go_wp2_with fail;go_loopw [7,8] (fun a b wr=> ∃ j d:Nat,a= .int .i64 j/\b= .int .i64 d/\j<=d/\d<=l.length/\Hid (Below w.heap.size w wr)) (fun a b _=>(intOf b).toNat - (intOf a).toNat)
 case atStart=>exact⟨0,l.length,rfl,rfl,Nat.zero_le _,Nat.le_refl _,hid br⟩
 case round=>
  obtain⟨j,d,rfl,rfl,N,C,m⟩:=hrel;by_cases hlt:j<d
  ·obtain⟨K,rfl,G,u⟩:=(E.out.later m.out) (by omega);have I:(j+d) / 2<l.length:=by omega
   have s:=WG (B:=wr.heap.size) Yy.k u I 0 (by omega) _ rfl;rw [ZG,Nat.add_zero,Nat.mul_one] at s;generalize l[(j+d) / 2]=q at s;have J:(0:Int)<=((j:Int)+ (d:Int)) / 2:=by omega
   have D:((j:Int)+ (d:Int)) / 2< (l.length:Int):=by omega
   have M:(((j:Int)+ (d:Int)) / 2).toNat=(j+d) / 2:=by omega
   clear u;go_wp2_with fail;refine(Ha q x wr).mono ?_
   rintro e L ⟨⟨b,rfl⟩,rfl⟩
   cases b
   ·go_wp2;go_roundw
    case rel=>exact⟨j,(j+d) / 2,rfl,by rw [show ((j:Int)+ (d:Int)) / 2=(((j+d) / 2:Nat):Int) by omega],by omega,by omega,m⟩
    case measure=>simp [intOf];omega
   ·go_wp2;go_roundw
    case rel=>exact⟨(j+d) / 2+1,d,by rw [show ((j:Int)+ (d:Int)) / 2+1=(((j+d) / 2+1:Nat):Int) by omega],rfl,by omega,C,m⟩
    case measure=>simp [intOf];omega
  ·obtain rfl:d=j:=by omega
   by_cases hlo:d<l.length
   ·obtain⟨K,rfl,G,u⟩:=(E.out.later m.out) (by omega);have s:=WG (B:=wr.heap.size) Yy.k u hlo 0 (by omega) _ rfl;rw [ZG,Nat.add_zero,Nat.mul_one] at s;generalize l[d]=q at s;have J:(0:Int)<=(d:Int):=by omega
    have D:(d:Int)< (l.length:Int):=by omega
    clear u
    cases hqx:(q == x)
    ·go_wp2_with fail;refine(GS q wr).mono ?_
     rintro e L ⟨rfl,rfl⟩;go_wp2;go_ret2;exact⟨d,_,rfl,C,fun _=>hlo,m.out⟩
    ·go_wp2;go_ret2;exact⟨d,_,rfl,C,fun _=>hlo,m.out⟩
   ·have D: ¬ (d:Int)< (l.length:Int):=by omega
    go_wp2;go_ret2;exact⟨d,_,rfl,C,fun h=>absurd h (by simp),m.out⟩
end Go.Proofs.YtnhmoibjlakhjaaGreat

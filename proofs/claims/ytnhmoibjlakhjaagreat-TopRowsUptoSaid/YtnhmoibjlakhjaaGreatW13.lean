/- Lemmas, each under its own conditions. -/
import Derived.Test.YtnhmoibjlakhjaaGreatW12
import Derived.Shelf.Abstract
set_option linter.all false
namespace Go.Proofs.YtnhmoibjlakhjaaGreat
open Go.Proofs.Tryz
open Lib (hid)
set_option maxRecDepth 100000
set_option maxHeartbeats 16000000
open Go.RowKit
theorem Uh (p:List Da->Bool)(g:Nat)(lb:Array Value)(ds:List (List Da))(A:Option Addr)(c:Nat)(w:World)(eg: ∀ args w,(callFunc g args).run prog w= .ok (.enter g args) w)
  (L:ZT w (· < w.heap.size) Ze ds A) (hn:ds.length<=1099511627776) (M:QG prog g lb Ze ds p w):
  Calls prog 70 #[.slice A ds.length c,.func (.func g) #[] lb] w fun e w'=>e= .returned (.int .i64 (Zd p ds 0))/\Below w.heap.size w w':=by
 have T:=hid L;have V:=hid M;have U:=iN 89 2;clear L M;go_enter func70,ntmps70
 go_wp2;go_loopw [8] (fun i wr=> ∃ j:Nat,j<=ds.length/\i= .int .i64 j/\Hid (Below w.heap.size w wr)/\Hid (Zd p ds 0=Zd p (ds.drop j) j)) (fun i _=>ds.length - (intOf i).toNat)
 case atStart=>exact⟨0,Nat.zero_le _,rfl,hid br,hid (by rw [List.drop_zero])⟩
 case round=>
  obtain⟨j,hj,rfl,h,E⟩:=hrel;by_cases hlt:j<ds.length
  ·obtain⟨F,s,rfl,G,N⟩:=(T.out.below h.out).at_ hlt;have m:Hid (Zd p ds 0=if p ds[j]=true then(j:Int) else Zd p (ds.drop (j+1)) (j+1)):=hid (E.out.trans (WY hlt));have I:=V.out wr ds[j] s h.out (List.getElem_mem hlt) G;have K:Hid ((prog.info? 89).map (·.size)=some s.length):=hid (by rw [G.len.2];exact U.out);generalize ds[j]=d at*;have J:Hid (∀ i u,s[i]?=some u->wr.cell? ((F.add (j*2)).add i)=some u):=hid fun i u Z=>by rw [ZG];exact N i u Z
   clear G N;have C:=hid I;clear I
   cases hq:p d
   ·rw [hq] at m C;have D:Hid (Zd p ds 0=Zd p (ds.drop (j+1)) (j+1)):=hid m.out;clear m hq;go_wp2_with (first | (with_reducible refine ZK rfl 89 _ rfl (F.add (j*2)) rfl s _ J.out underlying89 rfl K.out ?_) | (go_at_fn g;refine C.out.mono ?_;rintro e w2 ⟨rfl,hb⟩) | fail);have O:=bt h hb;go_roundw
    case rel=>exact⟨j+1,by omega,by go_num,O,D⟩
    case measure=>simp [intOf];omega
   ·rw [hq] at m C;have D:Hid (Zd p ds 0=(j:Int)):=hid m.out;clear m hq;go_wp2_with (first | (with_reducible refine ZK rfl 89 _ rfl (F.add (j*2)) rfl s _ J.out underlying89 rfl K.out ?_) | (go_at_fn g;refine C.out.mono ?_;rintro e w2 ⟨rfl,hb⟩) | fail);go_ret;exact⟨by rw [D.out];rfl,h.out.trans (hb.mono h.out.size)⟩
  ·obtain rfl:j=ds.length:=by omega
   rw [List.drop_length] at E;go_wp2;go_ret;exact⟨by rw [E.out];rfl,h.out⟩
theorem Ps (p:List Da->Bool)(g:Nat)(lb:Array Value)(ds:List (List Da))(A:Option Addr)(c:Nat)(w:World)(s: ∀ args w,(callFunc g args).run prog w= .ok (.enter g args) w)
  (d:ZT w (· < w.heap.size) Ze ds A) (u:ds.length<=1099511627776) (j:QG prog g lb Ze ds p w):
  Calls prog 31 #[.slice A ds.length c,.func (.func g) #[] lb] w fun e w'=>e= .returned (.bool (ds.any p))/\Below w.heap.size w w':=by
 have h:=Uh p g lb ds A c w s d u j;have m:=hid (WN p ds);clear d j;generalize Zd p ds 0=r at*;generalize ds.any p=b at*;go_enter func31,ntmps31
 go_wp2_with fail;refine h.mono ?_
 rintro e C ⟨rfl,hb⟩;go_wp2;go_ret;exact⟨by rw [<-m.out];rfl,hb⟩
theorem Rq (p:List Da->Bool)(g:Nat)(lb:Array Value)(ds:List (List Da))(A:Option Addr)(c:Nat)(w:World)(eg: ∀ args w,(callFunc g args).run prog w= .ok (.enter g args) w)
  (L:ZT w (· < w.heap.size) Zn ds A) (hn:ds.length<=1099511627776) (M:QG prog g lb Zn ds p w):
  Calls prog 92 #[.slice A ds.length c,.func (.func g) #[] lb] w fun e w'=>e= .returned (.int .i64 (Zd p ds 0))/\Below w.heap.size w w':=by
 have T:=hid L;have V:=hid M;have U:=iN 73 5;clear L M;go_enter func92,ntmps92
 go_wp2;go_loopw [8] (fun i wr=> ∃ j:Nat,j<=ds.length/\i= .int .i64 j/\Hid (Below w.heap.size w wr)/\Hid (Zd p ds 0=Zd p (ds.drop j) j)) (fun i _=>ds.length - (intOf i).toNat)
 case atStart=>exact⟨0,Nat.zero_le _,rfl,hid br,hid (by rw [List.drop_zero])⟩
 case round=>
  obtain⟨j,hj,rfl,h,E⟩:=hrel;by_cases hlt:j<ds.length
  ·obtain⟨F,s,rfl,G,N⟩:=(T.out.below h.out).at_ hlt;have m:Hid (Zd p ds 0=if p ds[j]=true then(j:Int) else Zd p (ds.drop (j+1)) (j+1)):=hid (E.out.trans (WY hlt));have I:=V.out wr ds[j] s h.out (List.getElem_mem hlt) G;have K:Hid ((prog.info? 73).map (·.size)=some s.length):=hid (by rw [G.len.2];exact U.out);generalize ds[j]=d at*;have J:Hid (∀ i u,s[i]?=some u->wr.cell? ((F.add (j*5)).add i)=some u):=hid fun i u Z=>by rw [ZG];exact N i u Z
   clear G N;have C:=hid I;clear I
   cases hq:p d
   ·rw [hq] at m C;have D:Hid (Zd p ds 0=Zd p (ds.drop (j+1)) (j+1)):=hid m.out;clear m hq;go_wp2_with (first | (with_reducible refine ZK rfl 73 _ rfl (F.add (j*5)) rfl s _ J.out underlying73 rfl K.out ?_) | (go_at_fn g;refine C.out.mono ?_;rintro e w2 ⟨rfl,hb⟩) | fail);have O:=bt h hb;go_roundw
    case rel=>exact⟨j+1,by omega,by go_num,O,D⟩
    case measure=>simp [intOf];omega
   ·rw [hq] at m C;have D:Hid (Zd p ds 0=(j:Int)):=hid m.out;clear m hq;go_wp2_with (first | (with_reducible refine ZK rfl 73 _ rfl (F.add (j*5)) rfl s _ J.out underlying73 rfl K.out ?_) | (go_at_fn g;refine C.out.mono ?_;rintro e w2 ⟨rfl,hb⟩) | fail);go_ret;exact⟨by rw [D.out];rfl,h.out.trans (hb.mono h.out.size)⟩
  ·obtain rfl:j=ds.length:=by omega
   rw [List.drop_length] at E;go_wp2;go_ret;exact⟨by rw [E.out];rfl,h.out⟩
theorem N8 (p:List Da->Bool)(g:Nat)(lb:Array Value)(ds:List (List Da))(A:Option Addr)(c:Nat)(w:World)(s: ∀ args w,(callFunc g args).run prog w= .ok (.enter g args) w)
  (d:ZT w (· < w.heap.size) Zn ds A) (u:ds.length<=1099511627776) (j:QG prog g lb Zn ds p w):
  Calls prog 129 #[.slice A ds.length c,.func (.func g) #[] lb] w fun e w'=>e= .returned (.bool (ds.any p))/\Below w.heap.size w w':=by
 have h:=Rq p g lb ds A c w s d u j;have m:=hid (WN p ds);clear d j;generalize Zd p ds 0=r at*;generalize ds.any p=b at*;go_enter func129,ntmps129
 go_wp2_with fail;refine h.mono ?_
 rintro e C ⟨rfl,hb⟩;go_wp2;go_ret;exact⟨by rw [<-m.out];rfl,hb⟩
theorem Ui (p:List Da->Bool)(g:Nat)(lb:Array Value)(ds:List (List Da))(A:Option Addr)(c:Nat)(w:World)(eg: ∀ args w,(callFunc g args).run prog w= .ok (.enter g args) w)
  (L:ZT w (· < w.heap.size) Zz ds A) (hn:ds.length<=1099511627776) (M:QG prog g lb Zz ds p w):
  Calls prog 112 #[.slice A ds.length c,.func (.func g) #[] lb] w fun e w'=>e= .returned (.int .i64 (Zd p ds 0))/\Below w.heap.size w w':=by
 have T:=hid L;have V:=hid M;have U:=iN 119 3;clear L M;go_enter func112,ntmps112
 go_wp2;go_loopw [8] (fun i wr=> ∃ j:Nat,j<=ds.length/\i= .int .i64 j/\Hid (Below w.heap.size w wr)/\Hid (Zd p ds 0=Zd p (ds.drop j) j)) (fun i _=>ds.length - (intOf i).toNat)
 case atStart=>exact⟨0,Nat.zero_le _,rfl,hid br,hid (by rw [List.drop_zero])⟩
 case round=>
  obtain⟨j,hj,rfl,h,E⟩:=hrel;by_cases hlt:j<ds.length
  ·obtain⟨F,s,rfl,G,N⟩:=(T.out.below h.out).at_ hlt;have m:Hid (Zd p ds 0=if p ds[j]=true then(j:Int) else Zd p (ds.drop (j+1)) (j+1)):=hid (E.out.trans (WY hlt));have I:=V.out wr ds[j] s h.out (List.getElem_mem hlt) G;have K:Hid ((prog.info? 119).map (·.size)=some s.length):=hid (by rw [G.len.2];exact U.out);generalize ds[j]=d at*;have J:Hid (∀ i u,s[i]?=some u->wr.cell? ((F.add (j*3)).add i)=some u):=hid fun i u Z=>by rw [ZG];exact N i u Z
   clear G N;have C:=hid I;clear I
   cases hq:p d
   ·rw [hq] at m C;have D:Hid (Zd p ds 0=Zd p (ds.drop (j+1)) (j+1)):=hid m.out;clear m hq;go_wp2_with (first | (with_reducible refine ZK rfl 119 _ rfl (F.add (j*3)) rfl s _ J.out underlying119 rfl K.out ?_) | (go_at_fn g;refine C.out.mono ?_;rintro e w2 ⟨rfl,hb⟩) | fail);have O:=bt h hb;go_roundw
    case rel=>exact⟨j+1,by omega,by go_num,O,D⟩
    case measure=>simp [intOf];omega
   ·rw [hq] at m C;have D:Hid (Zd p ds 0=(j:Int)):=hid m.out;clear m hq;go_wp2_with (first | (with_reducible refine ZK rfl 119 _ rfl (F.add (j*3)) rfl s _ J.out underlying119 rfl K.out ?_) | (go_at_fn g;refine C.out.mono ?_;rintro e w2 ⟨rfl,hb⟩) | fail);go_ret;exact⟨by rw [D.out];rfl,h.out.trans (hb.mono h.out.size)⟩
  ·obtain rfl:j=ds.length:=by omega
   rw [List.drop_length] at E;go_wp2;go_ret;exact⟨by rw [E.out];rfl,h.out⟩
theorem Kv (p:List Da->Bool)(g:Nat)(lb:Array Value)(ds:List (List Da))(A:Option Addr)(c:Nat)(w:World)(s: ∀ args w,(callFunc g args).run prog w= .ok (.enter g args) w)
  (d:ZT w (· < w.heap.size) Zz ds A) (u:ds.length<=1099511627776) (j:QG prog g lb Zz ds p w):
  Calls prog 52 #[.slice A ds.length c,.func (.func g) #[] lb] w fun e w'=>e= .returned (.bool (ds.any p))/\Below w.heap.size w w':=by
 have h:=Ui p g lb ds A c w s d u j;have m:=hid (WN p ds);clear d j;generalize Zd p ds 0=r at*;generalize ds.any p=b at*;go_enter func52,ntmps52
 go_wp2_with fail;refine h.mono ?_
 rintro e C ⟨rfl,hb⟩;go_wp2;go_ret;exact⟨by rw [<-m.out];rfl,hb⟩
theorem LP (p:List Da->Bool)(g:Nat)(lb:Array Value)(ds:List (List Da))(A:Option Addr)(c:Nat)(w:World)(eg: ∀ args w,(callFunc g args).run prog w= .ok (.enter g args) w)
  (L:ZT w (· < w.heap.size) YF ds A) (hn:ds.length<=1099511627776) (M:QG prog g lb YF ds p w):
  Calls prog 261 #[.slice A ds.length c,.func (.func g) #[] lb] w fun e w'=>e= .returned (.int .i64 (Zd p ds 0))/\Below w.heap.size w w':=by
 have T:=hid L;have V:=hid M;have U:=iN 40 8;clear L M;go_enter func261,ntmps261
 go_wp2;go_loopw [8] (fun i wr=> ∃ j:Nat,j<=ds.length/\i= .int .i64 j/\Hid (Below w.heap.size w wr)/\Hid (Zd p ds 0=Zd p (ds.drop j) j)) (fun i _=>ds.length - (intOf i).toNat)
 case atStart=>exact⟨0,Nat.zero_le _,rfl,hid br,hid (by rw [List.drop_zero])⟩
 case round=>
  obtain⟨j,hj,rfl,h,E⟩:=hrel;by_cases hlt:j<ds.length
  ·obtain⟨F,s,rfl,G,N⟩:=(T.out.below h.out).at_ hlt;have m:Hid (Zd p ds 0=if p ds[j]=true then(j:Int) else Zd p (ds.drop (j+1)) (j+1)):=hid (E.out.trans (WY hlt));have I:=V.out wr ds[j] s h.out (List.getElem_mem hlt) G;have K:Hid ((prog.info? 40).map (·.size)=some s.length):=hid (by rw [G.len.2];exact U.out);generalize ds[j]=d at*;have J:Hid (∀ i u,s[i]?=some u->wr.cell? ((F.add (j*8)).add i)=some u):=hid fun i u Z=>by rw [ZG];exact N i u Z
   clear G N;have C:=hid I;clear I
   cases hq:p d
   ·rw [hq] at m C;have D:Hid (Zd p ds 0=Zd p (ds.drop (j+1)) (j+1)):=hid m.out;clear m hq;go_wp2_with (first | (with_reducible refine ZK rfl 40 _ rfl (F.add (j*8)) rfl s _ J.out underlying40 rfl K.out ?_) | (go_at_fn g;refine C.out.mono ?_;rintro e w2 ⟨rfl,hb⟩) | fail);have O:=bt h hb;go_roundw
    case rel=>exact⟨j+1,by omega,by go_num,O,D⟩
    case measure=>simp [intOf];omega
   ·rw [hq] at m C;have D:Hid (Zd p ds 0=(j:Int)):=hid m.out;clear m hq;go_wp2_with (first | (with_reducible refine ZK rfl 40 _ rfl (F.add (j*8)) rfl s _ J.out underlying40 rfl K.out ?_) | (go_at_fn g;refine C.out.mono ?_;rintro e w2 ⟨rfl,hb⟩) | fail);go_ret;exact⟨by rw [D.out];rfl,h.out.trans (hb.mono h.out.size)⟩
  ·obtain rfl:j=ds.length:=by omega
   rw [List.drop_length] at E;go_wp2;go_ret;exact⟨by rw [E.out];rfl,h.out⟩
theorem Hp (p:List Da->Bool)(g:Nat)(lb:Array Value)(ds:List (List Da))(A:Option Addr)(c:Nat)(w:World)(s: ∀ args w,(callFunc g args).run prog w= .ok (.enter g args) w)
  (d:ZT w (· < w.heap.size) YF ds A) (u:ds.length<=1099511627776) (j:QG prog g lb YF ds p w):
  Calls prog 206 #[.slice A ds.length c,.func (.func g) #[] lb] w fun e w'=>e= .returned (.bool (ds.any p))/\Below w.heap.size w w':=by
 have h:=LP p g lb ds A c w s d u j;have m:=hid (WN p ds);clear d j;generalize Zd p ds 0=r at*;generalize ds.any p=b at*;go_enter func206,ntmps206
 go_wp2_with fail;refine h.mono ?_
 rintro e C ⟨rfl,hb⟩;go_wp2;go_ret;exact⟨by rw [<-m.out];rfl,hb⟩
theorem Kp (p:List Da->Bool)(g:Nat)(lb:Array Value)(ds:List (List Da))(A:Option Addr)(c:Nat)(w:World)(eg: ∀ args w,(callFunc g args).run prog w= .ok (.enter g args) w)
  (L:ZT w (· < w.heap.size) YM ds A) (hn:ds.length<=1099511627776) (M:QG prog g lb YM ds p w):
  Calls prog 250 #[.slice A ds.length c,.func (.func g) #[] lb] w fun e w'=>e= .returned (.int .i64 (Zd p ds 0))/\Below w.heap.size w w':=by
 have T:=hid L;have V:=hid M;have U:=iN 147 2;clear L M;go_enter func250,ntmps250
 go_wp2;go_loopw [8] (fun i wr=> ∃ j:Nat,j<=ds.length/\i= .int .i64 j/\Hid (Below w.heap.size w wr)/\Hid (Zd p ds 0=Zd p (ds.drop j) j)) (fun i _=>ds.length - (intOf i).toNat)
 case atStart=>exact⟨0,Nat.zero_le _,rfl,hid br,hid (by rw [List.drop_zero])⟩
 case round=>
  obtain⟨j,hj,rfl,h,E⟩:=hrel;by_cases hlt:j<ds.length
  ·obtain⟨F,s,rfl,G,N⟩:=(T.out.below h.out).at_ hlt;have m:Hid (Zd p ds 0=if p ds[j]=true then(j:Int) else Zd p (ds.drop (j+1)) (j+1)):=hid (E.out.trans (WY hlt));have I:=V.out wr ds[j] s h.out (List.getElem_mem hlt) G;have K:Hid ((prog.info? 147).map (·.size)=some s.length):=hid (by rw [G.len.2];exact U.out);generalize ds[j]=d at*;have J:Hid (∀ i u,s[i]?=some u->wr.cell? ((F.add (j*2)).add i)=some u):=hid fun i u Z=>by rw [ZG];exact N i u Z
   clear G N;have C:=hid I;clear I
   cases hq:p d
   ·rw [hq] at m C;have D:Hid (Zd p ds 0=Zd p (ds.drop (j+1)) (j+1)):=hid m.out;clear m hq;go_wp2_with (first | (with_reducible refine ZK rfl 147 _ rfl (F.add (j*2)) rfl s _ J.out underlying147 rfl K.out ?_) | (go_at_fn g;refine C.out.mono ?_;rintro e w2 ⟨rfl,hb⟩) | fail);have O:=bt h hb;go_roundw
    case rel=>exact⟨j+1,by omega,by go_num,O,D⟩
    case measure=>simp [intOf];omega
   ·rw [hq] at m C;have D:Hid (Zd p ds 0=(j:Int)):=hid m.out;clear m hq;go_wp2_with (first | (with_reducible refine ZK rfl 147 _ rfl (F.add (j*2)) rfl s _ J.out underlying147 rfl K.out ?_) | (go_at_fn g;refine C.out.mono ?_;rintro e w2 ⟨rfl,hb⟩) | fail);go_ret;exact⟨by rw [D.out];rfl,h.out.trans (hb.mono h.out.size)⟩
  ·obtain rfl:j=ds.length:=by omega
   rw [List.drop_length] at E;go_wp2;go_ret;exact⟨by rw [E.out];rfl,h.out⟩
theorem Ku (p:List Da->Bool)(g:Nat)(lb:Array Value)(ds:List (List Da))(A:Option Addr)(c:Nat)(w:World)(s: ∀ args w,(callFunc g args).run prog w= .ok (.enter g args) w)
  (d:ZT w (· < w.heap.size) YM ds A) (u:ds.length<=1099511627776) (j:QG prog g lb YM ds p w):
  Calls prog 181 #[.slice A ds.length c,.func (.func g) #[] lb] w fun e w'=>e= .returned (.bool (ds.any p))/\Below w.heap.size w w':=by
 have h:=Kp p g lb ds A c w s d u j;have m:=hid (WN p ds);clear d j;generalize Zd p ds 0=r at*;generalize ds.any p=b at*;go_enter func181,ntmps181
 go_wp2_with fail;refine h.mono ?_
 rintro e C ⟨rfl,hb⟩;go_wp2;go_ret;exact⟨by rw [<-m.out];rfl,hb⟩
theorem IY (p:List Da->Bool)(g:Nat)(lb:Array Value)(ds:List (List Da))(A:Option Addr)(c:Nat)(w:World)(eg: ∀ args w,(callFunc g args).run prog w= .ok (.enter g args) w)
  (L:ZT w (· < w.heap.size) Ya ds A) (hn:ds.length<=1099511627776) (M:QG prog g lb Ya ds p w):
  Calls prog 156 #[.slice A ds.length c,.func (.func g) #[] lb] w fun e w'=>e= .returned (.int .i64 (Zd p ds 0))/\Below w.heap.size w w':=by
 have T:=hid L;have V:=hid M;have U:=iN 53 6;clear L M;go_enter func156,ntmps156
 go_wp2;go_loopw [8] (fun i wr=> ∃ j:Nat,j<=ds.length/\i= .int .i64 j/\Hid (Below w.heap.size w wr)/\Hid (Zd p ds 0=Zd p (ds.drop j) j)) (fun i _=>ds.length - (intOf i).toNat)
 case atStart=>exact⟨0,Nat.zero_le _,rfl,hid br,hid (by rw [List.drop_zero])⟩
 case round=>
  obtain⟨j,hj,rfl,h,E⟩:=hrel;by_cases hlt:j<ds.length
  ·obtain⟨F,s,rfl,G,N⟩:=(T.out.below h.out).at_ hlt;have m:Hid (Zd p ds 0=if p ds[j]=true then(j:Int) else Zd p (ds.drop (j+1)) (j+1)):=hid (E.out.trans (WY hlt));have I:=V.out wr ds[j] s h.out (List.getElem_mem hlt) G;have K:Hid ((prog.info? 53).map (·.size)=some s.length):=hid (by rw [G.len.2];exact U.out);generalize ds[j]=d at*;have J:Hid (∀ i u,s[i]?=some u->wr.cell? ((F.add (j*6)).add i)=some u):=hid fun i u Z=>by rw [ZG];exact N i u Z
   clear G N;have C:=hid I;clear I
   cases hq:p d
   ·rw [hq] at m C;have D:Hid (Zd p ds 0=Zd p (ds.drop (j+1)) (j+1)):=hid m.out;clear m hq;go_wp2_with (first | (with_reducible refine ZK rfl 53 _ rfl (F.add (j*6)) rfl s _ J.out underlying53 rfl K.out ?_) | (go_at_fn g;refine C.out.mono ?_;rintro e w2 ⟨rfl,hb⟩) | fail);have O:=bt h hb;go_roundw
    case rel=>exact⟨j+1,by omega,by go_num,O,D⟩
    case measure=>simp [intOf];omega
   ·rw [hq] at m C;have D:Hid (Zd p ds 0=(j:Int)):=hid m.out;clear m hq;go_wp2_with (first | (with_reducible refine ZK rfl 53 _ rfl (F.add (j*6)) rfl s _ J.out underlying53 rfl K.out ?_) | (go_at_fn g;refine C.out.mono ?_;rintro e w2 ⟨rfl,hb⟩) | fail);go_ret;exact⟨by rw [D.out];rfl,h.out.trans (hb.mono h.out.size)⟩
  ·obtain rfl:j=ds.length:=by omega
   rw [List.drop_length] at E;go_wp2;go_ret;exact⟨by rw [E.out];rfl,h.out⟩
theorem N9 (p:List Da->Bool)(g:Nat)(lb:Array Value)(ds:List (List Da))(A:Option Addr)(c:Nat)(w:World)(s: ∀ args w,(callFunc g args).run prog w= .ok (.enter g args) w)
  (d:ZT w (· < w.heap.size) Ya ds A) (u:ds.length<=1099511627776) (j:QG prog g lb Ya ds p w):
  Calls prog 101 #[.slice A ds.length c,.func (.func g) #[] lb] w fun e w'=>e= .returned (.bool (ds.any p))/\Below w.heap.size w w':=by
 have h:=IY p g lb ds A c w s d u j;have m:=hid (WN p ds);clear d j;generalize Zd p ds 0=r at*;generalize ds.any p=b at*;go_enter func101,ntmps101
 go_wp2_with fail;refine h.mono ?_
 rintro e C ⟨rfl,hb⟩;go_wp2;go_ret;exact⟨by rw [<-m.out];rfl,hb⟩
theorem Ie (a b:List UInt8)(w:World):
  Calls prog 157 #[.string (Z2 a),.string (Z2 b)] w fun e w'=>e= .returned (.int .i64 (YR a b))/\w'=w:=by
 go_enter func157,ntmps157
 go_wp2;rw [run_callFunc_extern func234 (by kernel_rfl) (by kernel_rfl) (by kernel_rfl) (e:=Extern.BytealgCompare.compare) (by kernel_rfl),Lib.run_compareString];simp only [Result.andThen];rw [Oper.upon_value];go_wp2;go_ret;exact⟨rfl,rfl⟩
theorem Xu (a b:List UInt8)(w:World):
  Calls prog 107 #[.string (Z2 a),.string (Z2 b)] w fun e w'=>e= .returned (.int .i64 (YR a b))/\w'=w:=by
 have h:=Ie a b w;generalize YR a b=r at h ⊢;go_enter func107,ntmps107
 go_wp2_with fail;refine h.mono ?_
 rintro e w' ⟨rfl,rfl⟩;go_wp2;go_ret;exact⟨rfl,rfl⟩
theorem GK (x y:Int)(w:World):
  Calls prog 150 #[.int .i64 x,.int .i64 y] w fun e w'=>e= .returned (.int .i64 (Lib.compareInt x y))/\w'=w:=by
 have d: ∀ (z:Int) (W:World),Calls prog 227 #[.int .i64 z] W fun e w'=>e= .returned (.bool false)/\w'=W:=fun z W=>by
  go_enter func227,ntmps227
  go_wp2;go_ret;exact⟨by simp,rfl⟩
 unfold Lib.compareInt;by_cases h1:x<y
 ·go_enter func150,ntmps150
  go_wp2_with (go_at_call 227;refine(d _ _).mono ?_;rintro e w' ⟨rfl,rfl⟩);go_ret;exact⟨by simp [h1],rfl⟩
 ·by_cases h2:y<x
  ·go_enter func150,ntmps150
   go_wp2_with (go_at_call 227;refine(d _ _).mono ?_;rintro e w' ⟨rfl,rfl⟩);go_ret;exact⟨by simp [h1,h2],rfl⟩
  ·have h: ¬ x > y:=h2;go_enter func150,ntmps150
   go_wp2_with (go_at_call 227;refine(d _ _).mono ?_;rintro e w' ⟨rfl,rfl⟩);go_ret;exact⟨by simp [h1,h2],rfl⟩
def MK:List Int->Int
 | []=>0
 | n ::l=>Pf n (MK l)
theorem Kf (l:List Int)(g c:Nat)(w:World)(C:ZP w g 3 (l.map fun n=> .int .i64 n))(G:l.length<=1099511627776):
  Calls prog 149 #[.slice (some ⟨g,0,none⟩) l.length c] w fun e w'=>e= .returned (.int .i64 (MK l))/\w'=w:=by
 have D:=hid C;clear C;go_enter func149,ntmps149
 go_wp2;go_loopw [8] (fun i wr=> ∃ j:Nat,j<=l.length/\i= .int .i64 j/\Hid (wr=w)/\Hid (MK l=MK (l.drop j))) (fun i _=>l.length - (intOf i).toNat)
 case atStart=>exact⟨0,Nat.zero_le _,rfl,hid rfl,hid (by rw [List.drop_zero])⟩
 case round=>
  obtain⟨j,F,rfl,h,s⟩:=hrel;by_cases hlt:j<l.length
  ·have u:Hid (MK l=Pf l[j] (MK (l.drop (j+1)))):=hid (by rw [s.out,List.drop_eq_getElem_cons hlt];rfl);have a0:wr.cell? ⟨g,j,none⟩=some (.int .i64 l[j]):=by
    rw [h.out,D.out.cell];simp [hlt]
   generalize l[j]=d at*;by_cases hd:d=0
   ·subst hd;have m:Hid (MK l=MK (l.drop (j+1))):=hid u.out;go_wp2;go_roundw
    case rel=>exact⟨j+1,by omega,by go_num,h,m⟩
    case measure=>simp [intOf];omega
   ·have m:Hid (MK l=d):=hid (by rw [u.out];simp [Pf,hd]);have E:(d == 0)=false:=by simpa using hd
    go_wp2;go_ret;exact⟨by rw [m.out];rfl,h.out⟩
  ·obtain rfl:j=l.length:=by omega
   rw [List.drop_length] at s;go_wp2;go_ret;exact⟨by rw [s.out];rfl,h.out⟩
theorem JW (a b:Sc)(w:World):
  Calls prog 106 #[.agg (a.cs).toArray,.agg (b.cs).toArray] w fun e w'=>e= .returned (.int .i64 (Wk a b))/\Below w.heap.size w w':=by
 unfold Wk Sc.cs;have h:=fun W=>Xu a.name b.name W
 generalize YR a.name b.name=r at h ⊢;go_enter func106,ntmps106
 go_wp2_with fail;refine(h _).mono ?_
 rintro e w' ⟨rfl,rfl⟩;go_wp2;go_ret;exact⟨rfl,(br.alloc lr _).alloc (by simp) _⟩
theorem Ka (a b:Ru)(A:Option Addr)(n:Nat)(B:Option Addr)(m:Nat)(w:World):
  Calls prog 164 #[.agg (a.cs A n).toArray,.agg (b.cs B m).toArray] w fun e w'=>e= .returned (.int .i64 (WM a b))/\Below w.heap.size w w':=by
 unfold WM Ru.cs;have h:=fun W=>Xu a.name b.name W
 generalize YR a.name b.name=r at h ⊢;go_enter func164,ntmps164
 go_wp2_with fail;refine(h _).mono ?_
 rintro e w' ⟨rfl,rfl⟩;go_wp2;go_ret;exact⟨rfl,(br.alloc lr _).alloc (by simp) _⟩
end Go.Proofs.YtnhmoibjlakhjaaGreat

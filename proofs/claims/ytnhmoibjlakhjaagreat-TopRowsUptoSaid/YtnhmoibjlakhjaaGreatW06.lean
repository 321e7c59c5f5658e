/- Lemmas, each under its own conditions. -/
import Derived.Test.YtnhmoibjlakhjaaGreatProg
import Derived.Lib.Slices
import Derived.Lib.Walk
import Derived.Lib.Bytealg
import Derived.Test.YtnhmoibjlakhjaaGreatW04
set_option linter.all false
namespace Go.Proofs.YtnhmoibjlakhjaaGreat
open Go.Proofs.Tryz
open Lib (hid)
set_option maxRecDepth 100000
set_option maxHeartbeats 16000000
open Go.RowKit Le
def UC (c:UInt8):Bool:=97<=c && c<=122
def WX (c:UInt8):Bool:=(97<=c && c<=122) ||(48<=c && c<=57) || c == 95
def Zw (b:List UInt8):Bool:=decide (b≠ []) && decide (b.length<=16) && (match b with | c ::_=>UC c | []=>false) && b.all WX
def Fq:List UInt8:= [97,98,99,100,101,102,103,104,105,106,107,108,109,110,111,112,113,114,115,116,117,118,119,120,121,122]
def Ff:List UInt8:=Fq ++ [48,49,50,51,52,53,54,55,56,57,95]
theorem SU (l:List UInt8)(c:UInt8):decide (Lib.indexByte l c<0)= !l.contains c:=by
 induction l with
 | nil=>simp [Lib.indexByte]
 | cons b l ih=>
  have u:=Lib.indexByte_ge l c;unfold Lib.indexByte;by_cases hb:b=c
  ·subst hb;simp
  ·have d:(b == c)=false:=by simpa using hb
   have j:(c == b)=false:=by simpa using (fun h:c=b=>hb h.symm)
   rw [d];simp only [Bool.false_eq_true,if_false,List.contains_cons,j,Bool.false_or];rw [<-ih];split
   ·rename_i h;have:Lib.indexByte l c= -1:=by simpa using h
    simp [this]
   ·rename_i h;have s:Lib.indexByte l c≠ -1:=by simpa using h
    have: ¬ Lib.indexByte l c<0:=by omega
    have m: ¬ Lib.indexByte l c+1<0:=by omega
    simp [this,m]
theorem Ns (c:UInt8):Fq.contains c=UC c:=by
 have h: ∀ n:Fin 256,Fq.contains (UInt8.ofFin n)=UC (UInt8.ofFin n):=by decide +kernel
 have:=h c.toFin;simpa using this
theorem OG (c:UInt8):Ff.contains c=WX c:=by
 have h: ∀ n:Fin 256,Ff.contains (UInt8.ofFin n)=WX (UInt8.ofFin n):=by decide +kernel
 have:=h c.toFin;simpa using this
theorem IA (s:ByteArray)(c:Int)(w:World):
  Calls prog 171 #[.string s,.int .u8 c] w fun e w'=>e= .returned (.int .i64 (Lib.indexByte s.data.toList c.toNat.toUInt8))/\w'=w:=by
 go_enter func171,ntmps171
 go_wp2;rw [run_callFunc_extern func244 (by kernel_rfl) (by kernel_rfl) (by kernel_rfl) (e:=Extern.BytealgIndexByte.indexByte) (by kernel_rfl),Lib.run_indexByteString];simp only [Result.andThen];rw [Oper.upon_value];go_wp2;go_ret;exact⟨rfl,rfl⟩
theorem OO (s:ByteArray)(c:Int)(w:World):
  Calls prog 122 #[.string s,.int .u8 c] w fun e w'=>e= .returned (.int .i64 (Lib.indexByte s.data.toList c.toNat.toUInt8))/\w'=w:=by
 go_enter func122,ntmps122
 go_wp2_with (go_at_call 171;refine(IA _ _ _).mono ?_;rintro e w' ⟨rfl,rfl⟩);go_ret;exact⟨rfl,rfl⟩
theorem Gq (b:List UInt8)(j:Nat)(h:j<b.length)(d:j< (Z2 b).size):(Z2 b)[j]'d=b[j]:=rfl
theorem FW (c:UInt8)(w:World):
  Calls prog 122 #[.string ⟨#[97,98,99,100,101,102,103,104,105,106,107,108,109,110,111,112,113,114,115,116,117,118,119,120,121,122,48,49,50,51,52,53,54,55,56,57,95]⟩,.int .u8 c.toNat] w fun e w'=> ∃ v:Int,e= .returned (.int .i64 v)/\decide (v<0)= !WX c/\w=w':=by
 refine(OO _ _ w).mono ?_
 rintro e w' ⟨rfl,rfl⟩;refine⟨_,rfl,?_,rfl⟩
 rw [SU,<-OG];simp [Ff,Fq]
theorem Hk (c:UInt8)(w:World):
  Calls prog 122 #[.string ⟨#[97,98,99,100,101,102,103,104,105,106,107,108,109,110,111,112,113,114,115,116,117,118,119,120,121,122]⟩,.int .u8 c.toNat] w fun e w'=> ∃ v:Int,e= .returned (.int .i64 v)/\decide (0<=v)=UC c/\w=w':=by
 refine(OO _ _ w).mono ?_
 rintro e w' ⟨rfl,rfl⟩;refine⟨_,rfl,?_,rfl⟩
 have h:=SU Fq c;rw [Ns] at h;have e:Lib.indexByte (ByteArray.data ⟨#[97,98,99,100,101,102,103,104,105,106,107,108,109,110,111,112,113,114,115,116,117,118,119,120,121,122]⟩).toList (c.toNat:Int).toNat.toUInt8=Lib.indexByte Fq c:=by simp [Fq]
 rw [e];by_cases h0:0<=Lib.indexByte Fq c
 ·rw [decide_eq_true h0];rw [decide_eq_false (by omega)] at h;simpa using h.symm
 ·rw [decide_eq_false h0];rw [decide_eq_true (by omega)] at h;simpa using h.symm
theorem IQ (b:List UInt8)(w:World)(hb:b.length<=1099511627776):
  Calls prog 123 #[.string (Z2 b)] w fun e w'=>e= .returned (.bool (b.all WX))/\ ∃ m,w'=w.drewN m:=by
 go_enter func123,ntmps123
 have G:(Z2 b).size=b.length:=by simp [Z2,ByteArray.size]
 go_wp2_with fail;go_loopw [6] (fun i wr=> ∃ j:Nat,j<=b.length/\i= .int .i64 j/\Hid ((b.take j).all WX=true)/\Hid (wr=w)) (fun i _=>b.length - (intOf i).toNat)
 case atStart=>exact⟨0,Nat.zero_le _,rfl,hid (by simp),hid rfl⟩
 case round=>
  obtain⟨j,F,rfl,d,s⟩:=hrel;by_cases hlt:j<b.length
  ·go_wp2_with fail;rw [Gq b j hlt];refine(FW b[j] wr).mono ?_
   rintro e J ⟨v,rfl,I,rfl⟩;have C:Hid ((b.take (j+1)).all WX=((b.take j).all WX && WX b[j])):=hid (by rw [List.take_succ_eq_append_getElem hlt,List.all_append];simp)
   have E:Hid (WX b[j]=false->b.all WX=false):=hid (fun h=>by
    rw [List.all_eq_false];exact⟨b[j],List.getElem_mem hlt,by simp [h]⟩)
   generalize WX b[j]=p at*;generalize (Z2 b)[j]'_=cc at*
   cases p
   ·have D:=E.out rfl;go_wp2_with fail;go_ret;exact⟨by rw [D];rfl,0,by rw [s.out];rfl⟩
   ·go_wp2_with fail;go_roundw
    case rel=>exact⟨j+1,by omega,by go_num,hid (by rw [C.out,d.out];rfl),s⟩
    case measure=>simp [intOf];omega
  ·go_wp2_with fail;have u:j=b.length:=by omega
   subst u;rw [List.take_length] at d;go_ret;exact⟨by rw [d.out];rfl,0,by rw [s.out];rfl⟩
theorem YI (b:List UInt8)(w:World):
  Calls prog 67 #[.string (Z2 b)] w fun e w'=>e= .returned (.bool (Zw b))/\ ∃ m,w'=w.drewN m:=by
 cases b with
 | nil=>
  go_enter func67,ntmps67
  go_wp2_with fail;go_ret;exact⟨rfl,0,rfl⟩
 | cons c l=>
  have E:(Z2 (c ::l)).size=(c ::l).length:=by simp [Z2,ByteArray.size]
  have s:(c ::l)≠ []:=by simp
  have C:0< (c ::l).length:=by simp
  have d:Hid (Zw (c ::l)=(decide ((c ::l).length<=16) && UC c && (c ::l).all WX)):=hid (by simp [Zw]);have D: ∀ h,(Z2 (c ::l))[0]'h=c:=fun _=>rfl
  generalize hB:c ::l=b at*;clear hB;by_cases h16:b.length<=16
  ·rw [decide_eq_true h16,Bool.true_and] at d;have j:(b.length:Int)<=16:=by omega
   go_enter func67,ntmps67
   go_wp2_with fail;refine(Hk c w).mono ?_
   rintro e u ⟨v,rfl,F,rfl⟩;generalize UC c=p at*
   cases p
   ·rw [Bool.false_and] at d;go_wp2_with fail;go_ret;exact⟨by rw [d.out];rfl,0,rfl⟩
   ·rw [Bool.true_and] at d;go_wp2_with fail;refine(IQ b w (by omega)).mono ?_
    rintro e u ⟨rfl,m,rfl⟩;go_wp2_with fail;go_ret;exact⟨by rw [d.out];simp [s],m,rfl⟩
  ·rw [decide_eq_false h16,Bool.false_and,Bool.false_and] at d;have j: ¬ (b.length:Int)<=16:=by omega
   go_enter func67,ntmps67
   go_wp2_with fail;go_ret;exact⟨by rw [d.out];rfl,0,rfl⟩
def YR (a b:List UInt8):Int:=Lib.compareBytes a b
def Pf (a b:Int):Int:=if a=0 then b else a
def Xg (a b:Tb):Int:=Pf (YR a.Z9 b.Z9) (YR a.name b.name)
def Wk (a b:Sc):Int:=YR a.name b.name
def WM (a b:Ru):Int:=YR a.name b.name
def Zt {α:Type}(c:α->α->Int):List α->Bool
 | a ::b ::l=>decide (c a b<0) && Zt c (b ::l)
 | _=>true
def WS:Option Nat->Int
 | some i=>i
 | none=> -1
def Y7 (l:List Cl)(n:List UInt8):Option Nat:=l.findIdx? fun c=>c.name == n
def SD (l:List Ru)(n:List UInt8):Option Nat:=l.findIdx? fun r=>r.name == n
def Xd (l:List Sc)(n:List UInt8):Option Nat:=l.findIdx? fun s=>s.name == n
def XA (o:Ob)(s t:List UInt8):Option Nat:=o.Z8.findIdx? fun x=>x.Z9 == s && x.name == t
def X9 (o:Ob)(s:List UInt8):Nat:=(o.Z8.filter fun t=>t.Z9 == s).length
def VR (c:Cl):Bool:=Zw c.name && (c.ZV == 2 || c.ZV == 3)
def XH (l:List Cl):Nat->List Cl->Bool
 | _,[]=>true
 | i,c ::r=>VR c && Y7 l c.name == some i && XH l (i+1) r
def YJ (l:List Cl):Bool:=decide (1<=l.length) && decide (l.length<=8) && XH l 0 l
def YL (l:List Cl)(cs:List (List UInt8)):Nat->List (List UInt8)->Bool
 | _,[]=>true
 | i,n ::r=>(Y7 l n).isSome && cs.findIdx? (· == n) == some i && YL l cs (i+1) r
def QX (r:Ru):Bool:=r.Z9 ++r.ZZ ++r.key == []
def Yf (l:List Cl)(n:List UInt8):Option Int:=(l.find? fun c=>c.name == n).map (·.ZV)
def Tn (l:List Cl)(r:Ru):Bool:=
 if r.ZV=3 then QX r && r.Z3.length == 1 && Yf l (r.Z3.headD []) == some 2 && decide (r.low<=r.ZB)
 else if r.ZV=4 then Zw r.Z9 && Zw r.ZZ && Zw r.key && r.low == 0 && r.ZB == 0
 else if r.ZV=1∨r.ZV=2 then QX r && r.low == 0 && r.ZB == 0
 else false
def YA (l:List Cl)(r:Ru):Bool:=Zw r.name && decide (1<=r.Z3.length) && decide (r.Z3.length<=l.length) && YL l r.Z3 0 r.Z3 && Tn l r
def YP (l:List Cl)(ns:List (List UInt8)):List Int:=ns.filterMap (Yf l)
def UB (o:Ob)(l:List Cl)(r:Ru):Int:=
 match o.Z8.find? fun x=>x.Z9 == r.Z9 && x.name == r.ZZ with
 | none=>61
 | some t=>
  match t.ZW.find? fun x=>x.name == r.key with
  | none=>61
  | some k=>if k.ZV≠2 then 61 else if k.Z3.length=r.Z3.length/\(YP t.Z3 k.Z3).length=k.Z3.length/\YP l r.Z3=YP t.Z3 k.Z3 then 0 else 63
def U4 (o:Ob)(t:Tb)(r:Ru):Bool:=YA t.Z3 r && (r.ZV != 4 || UB o t.Z3 r == 0)
def YN (o:Ob)(t:Tb):Bool:=
 Zw t.name && Zw t.ZN && YJ t.Z3 && decide (t.ZW.length<=8) && (Xd o.Z7 t.Z9).isSome && t.ZW.all (U4 o t) && Zt WM t.ZW
def Zc (o:Ob):Bool:=
 decide (o.Z7.length<=8) && decide (o.Z8.length<=64) && Zt Xg o.Z8 && Zt Wk o.Z7 && (o.Z7.all fun s=>Zw s.name && Zw s.ZN && decide (X9 o s.name<=8)) && o.Z8.all (YN o)
theorem S4 {o:Ob}(h:Zc o=true){t:Tb}(d:t∈o.Z8):(Xd o.Z7 t.Z9).isSome=true:=by
 unfold Zc at h;simp only [Bool.and_eq_true,List.all_eq_true] at h;have:=h.2 t d;unfold YN at this;simp only [Bool.and_eq_true] at this;exact this.1.1.2
end Go.Proofs.YtnhmoibjlakhjaaGreat

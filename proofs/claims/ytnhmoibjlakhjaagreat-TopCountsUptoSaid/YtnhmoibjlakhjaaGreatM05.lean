/- Lemmas of the proof. No condition but each theorem's own. -/
import Derived.Test.YtnhmoibjlakhjaaGreatM02
import Derived.Test.YtnhmoibjlakhjaaGreatProg
import Derived.Lib.Strings
import Derived.Lib.Slices
import Derived.Lib.Walk
import Derived.Lib.Bytealg
set_option linter.unusedVariables false
set_option linter.unusedSimpArgs false
namespace Go.Proofs.YtnhmoibjlakhjaaGreat
open Lib (hid)
set_option maxRecDepth 100000
set_option maxHeartbeats 16000000
open Go.RowKit Le
def Vu (c:UInt8):Bool:=97≤c && c≤122
def Xv (c:UInt8):Bool:=(97≤c && c≤122) ||(48≤c && c≤57) || c == 95
def Zq (b:List UInt8):Bool:=decide (b≠ []) && decide (b.length≤16) && (match b with | c ::_=>Vu c | []=>false) && b.all Xv
def JI:List UInt8:= [97,98,99,100,101,102,103,104,105,106,107,108,109,110,111,112,113,114,115,116,117,118,119,120,121,122]
def JC:List UInt8:=JI ++ [48,49,50,51,52,53,54,55,56,57,95]
theorem Um (l:List UInt8)(c:UInt8):decide (Lib.indexByte l c<0)= !l.contains c:=by
 induction l with
 | nil=>simp [Lib.indexByte]
 | cons b l ih=>
  have hg:=Lib.indexByte_ge l c;unfold Lib.indexByte;by_cases hb:b=c
  ·subst hb;simp
  ·have hb':(b == c)=false:=by simpa using hb
   have hc':(c == b)=false:=by simpa using (fun h:c=b=>hb h.symm)
   rw [hb'];simp only [Bool.false_eq_true,if_false,List.contains_cons,hc',Bool.false_or];rw [←ih];split
   ·rename_i h;have:Lib.indexByte l c= -1:=by simpa using h
    simp [this]
   ·rename_i h;have h1:Lib.indexByte l c≠ -1:=by simpa using h
    have: ¬ Lib.indexByte l c<0:=by omega
    have h2: ¬ Lib.indexByte l c+1<0:=by omega
    simp [this,h2]
theorem PK (c:UInt8):JI.contains c=Vu c:=by
 have h: ∀ n:Fin 256,JI.contains (UInt8.ofFin n)=Vu (UInt8.ofFin n):=by decide +kernel
 have:=h c.toFin;simpa using this
theorem QY (c:UInt8):JC.contains c=Xv c:=by
 have h: ∀ n:Fin 256,JC.contains (UInt8.ofFin n)=Xv (UInt8.ofFin n):=by decide +kernel
 have:=h c.toFin;simpa using this
theorem LO (s:ByteArray)(c:Int)(w:World):
  Calls Tryz.prog 171 #[.string s,.int .u8 c] w fun e w'=>e= .returned (.int .i64 (Lib.indexByte s.data.toList c.toNat.toUInt8))∧w'=w:=by
 go_enter Tryz.func171,Tryz.ntmps171
 go_wp2;rw [run_callFunc_extern Tryz.func244 (by kernel_rfl) (by kernel_rfl) (by kernel_rfl) (e:=Extern.BytealgIndexByte.indexByte) (by kernel_rfl),Lib.run_indexByteString];simp only [Result.andThen];rw [Oper.upon_value];go_wp2;go_ret;exact⟨rfl,rfl⟩
theorem Rm (s:ByteArray)(c:Int)(w:World):
  Calls Tryz.prog 122 #[.string s,.int .u8 c] w fun e w'=>e= .returned (.int .i64 (Lib.indexByte s.data.toList c.toNat.toUInt8))∧w'=w:=by
 go_enter Tryz.func122,Tryz.ntmps122
 go_wp2_with (go_at_call 171;refine(LO _ _ _).mono ?_;rintro e w' ⟨rfl,rfl⟩);go_ret;exact⟨rfl,rfl⟩
theorem KD (b:List UInt8)(j:Nat)(h:j<b.length)(h':j< (Z9 b).size):(Z9 b)[j]'h'=b[j]:=rfl
theorem Kb (c:UInt8)(w:World):
  Calls Tryz.prog 122 #[.string ⟨#[97,98,99,100,101,102,103,104,105,106,107,108,109,110,111,112,113,114,115,116,117,118,119,120,121,122,48,49,50,51,52,53,54,55,56,57,95]⟩,.int .u8 c.toNat] w fun e w'=> ∃ v:Int,e= .returned (.int .i64 v)∧decide (v<0)= !Xv c∧w=w':=by
 refine(Rm _ _ w).mono ?_
 rintro e w' ⟨rfl,rfl⟩;refine⟨_,rfl,?_,rfl⟩
 rw [Um,←QY];simp [JC,JI]
theorem Lj (c:UInt8)(w:World):
  Calls Tryz.prog 122 #[.string ⟨#[97,98,99,100,101,102,103,104,105,106,107,108,109,110,111,112,113,114,115,116,117,118,119,120,121,122]⟩,.int .u8 c.toNat] w fun e w'=> ∃ v:Int,e= .returned (.int .i64 v)∧decide (0≤v)=Vu c∧w=w':=by
 refine(Rm _ _ w).mono ?_
 rintro e w' ⟨rfl,rfl⟩;refine⟨_,rfl,?_,rfl⟩
 have h:=Um JI c;rw [PK] at h;have e:Lib.indexByte (ByteArray.data ⟨#[97,98,99,100,101,102,103,104,105,106,107,108,109,110,111,112,113,114,115,116,117,118,119,120,121,122]⟩).toList (c.toNat:Int).toNat.toUInt8=Lib.indexByte JI c:=by simp [JI]
 rw [e];by_cases h0:0≤Lib.indexByte JI c
 ·rw [decide_eq_true h0];rw [decide_eq_false (by omega)] at h;simpa using h.symm
 ·rw [decide_eq_false h0];rw [decide_eq_true (by omega)] at h;simpa using h.symm
theorem L4 (b:List UInt8)(w:World)(hb:b.length≤1099511627776):
  Calls Tryz.prog 123 #[.string (Z9 b)] w fun e w'=>e= .returned (.bool (b.all Xv))∧ ∃ m,w'=w.drewN m:=by
 go_enter Tryz.func123,Tryz.ntmps123
 have hs:(Z9 b).size=b.length:=by simp [Z9,ByteArray.size]
 go_wp2_with fail;go_loopw [6] (fun i wr=> ∃ j:Nat,j≤b.length∧i= .int .i64 j∧Hid ((b.take j).all Xv=true)∧Hid (wr=w)) (fun i _=>b.length - (intOf i).toNat)
 case atStart=>exact⟨0,Nat.zero_le _,rfl,hid (by simp),hid rfl⟩
 case round=>
  obtain⟨j,hj,rfl,HA,HW⟩:=hrel;by_cases hlt:j<b.length
  ·go_wp2_with fail;rw [KD b j hlt];refine(Kb b[j] wr).mono ?_
   rintro e w1 ⟨v,rfl,hv,rfl⟩;have HN:Hid ((b.take (j+1)).all Xv=((b.take j).all Xv && Xv b[j])):=hid (by rw [List.take_succ_eq_append_getElem hlt,List.all_append];simp)
   have HT:Hid (Xv b[j]=false→b.all Xv=false):=hid (fun h=>by
    rw [List.all_eq_false];exact⟨b[j],List.getElem_mem hlt,by simp [h]⟩)
   generalize Xv b[j]=p at*;generalize (Z9 b)[j]'_=cc at*
   cases p
   ·have HR:=HT.out rfl;go_wp2_with fail;go_ret;exact⟨by rw [HR];rfl,0,by rw [HW.out];rfl⟩
   ·go_wp2_with fail;go_roundw
    case rel=>exact⟨j+1,by omega,by go_num,hid (by rw [HN.out,HA.out];rfl),HW⟩
    case measure=>simp [intOf];omega
  ·go_wp2_with fail;have hje:j=b.length:=by omega
   subst hje;rw [List.take_length] at HA;go_ret;exact⟨by rw [HA.out];rfl,0,by rw [HW.out];rfl⟩
theorem YK (b:List UInt8)(w:World):
  Calls Tryz.prog 67 #[.string (Z9 b)] w fun e w'=>e= .returned (.bool (Zq b))∧ ∃ m,w'=w.drewN m:=by
 cases b with
 | nil=>
  go_enter Tryz.func67,Tryz.ntmps67
  go_wp2_with fail;go_ret;exact⟨rfl,0,rfl⟩
 | cons c l=>
  have hs:(Z9 (c ::l)).size=(c ::l).length:=by simp [Z9,ByteArray.size]
  have hne:(c ::l)≠ []:=by simp
  have hpos:0< (c ::l).length:=by simp
  have HN:Hid (Zq (c ::l)=(decide ((c ::l).length≤16) && Vu c && (c ::l).all Xv)):=hid (by simp [Zq]);have hg: ∀ h,(Z9 (c ::l))[0]'h=c:=fun _=>rfl
  generalize hB:c ::l=b at*;clear hB;by_cases h16:b.length≤16
  ·rw [decide_eq_true h16,Bool.true_and] at HN;have h16':(b.length:Int)≤16:=by omega
   go_enter Tryz.func67,Tryz.ntmps67
   go_wp2_with fail;refine(Lj c w).mono ?_
   rintro e w1 ⟨v,rfl,hv,rfl⟩;generalize Vu c=p at*
   cases p
   ·rw [Bool.false_and] at HN;go_wp2_with fail;go_ret;exact⟨by rw [HN.out];rfl,0,rfl⟩
   ·rw [Bool.true_and] at HN;go_wp2_with fail;refine(L4 b w (by omega)).mono ?_
    rintro e w1 ⟨rfl,m,rfl⟩;go_wp2_with fail;go_ret;exact⟨by rw [HN.out];simp [hne],m,rfl⟩
  ·rw [decide_eq_false h16,Bool.false_and,Bool.false_and] at HN;have h16': ¬ (b.length:Int)≤16:=by omega
   go_enter Tryz.func67,Tryz.ntmps67
   go_wp2_with fail;go_ret;exact⟨by rw [HN.out];rfl,0,rfl⟩
end Go.Proofs.YtnhmoibjlakhjaaGreat

/- Lemmas of the proof. No condition but each theorem's own. -/
import Derived.Test.YtnhmoibjlakhjaaGreatR29
set_option linter.unusedVariables false
set_option linter.unusedSimpArgs false
namespace Go.Proofs.YtnhmoibjlakhjaaGreat
set_option maxRecDepth 100000
set_option maxHeartbeats 16000000
def RO (k:Int):Int:=if k=2∨k=3 then 1 else if k=4∨k=5∨k=6∨k=7∨k=8∨k=9 then 2 else if k=14∨k=15 then 3 else 0
def Wk (x:Cm):Bool:=if x.ZQ=2∨x.ZQ=4∨x.ZQ=6∨x.ZQ=9∨x.ZQ=11∨x.ZQ=13∨x.ZQ=15 then true else if x.ZQ=7 then x.ZZ.ZQ != 1 else false
def VV (k:Int):Bool×Bool×Bool×Bool:=
 if k=1∨k=2 then(true,false,false,false) else if k=3∨k=4∨k=5∨k=7 then(true,true,false,false) else if k=6∨k=8 then(true,true,true,false)
 else if k=9∨k=14∨k=15 then(true,true,false,true) else if k=10∨k=11 then(false,false,false,true) else if k=12∨k=13 then(false,false,true,true) else(false,false,false,false)
def XW (k:Int):Bool:=decide (1≤k) && decide (k≤15)
def Yt (u:Bool)(s:List UInt8):Bool:=(u ==(s != [])) && (!u || Zr s)
def U9 (r:Ru):Bool:=r.ZX.length == 0 && (r.name ++r.Z8 ++r.ZY ++r.key == []) && r.ZQ == 0 && r.low == 0 && r.ZF == 0
def Sl (x:Cm):Bool:=
 if x.ZQ=3 then U9 x.ZZ && x.right == 0 && !x.Zz
 else if x.ZQ=5 then U9 x.ZZ && x.right == 0 && !x.Zz && x.ZX.length == 1
 else if x.ZQ=7 then x.ZX.length == 0 && x.right == 0 && !x.Zz
 else if x.ZQ=14∨x.ZQ=15 then(x.right == 1 || x.right == 2) && U9 x.ZZ && x.ZX.length == 0 && (x.ZQ == 14 || !x.Zz)
 else U9 x.ZZ && x.ZX.length == 0 && x.right == 0 && !x.Zz
def RD (x:Cm):Bool:=Yt (VV x.ZQ).1 x.Z8 && Yt (VV x.ZQ).2.1 x.ZY && Yt (VV x.ZQ).2.2.1 x.name && Yt (VV x.ZQ).2.2.2 x.ZT
def UV (x:Cm):Bool:=XW x.ZQ && Zr x.ZM && RD x && Sl x
def XP (c:Ca):Int:=if decide (0≤c.ZO) && decide (c.ZO≤1000) && decide (0≤c.ZU) && decide (c.ZU≤1000000000) && X7 c then 0 else 1
def Pj (c:Ca)(s:List UInt8):List UInt8:=((c.ob.Z4.find? fun x=>x.name == s).map (·.ZL)).getD []
def WF (c:Ca)(x:Cm):Bool:=
 if RO x.ZQ=1 then Nb c.ro x.ZM Yd || Nb c.ro x.ZM (Pj c x.Z8)
 else if RO x.ZQ=2 then Xo c x.ZM x.Z8 x.ZY
 else if RO x.ZQ=3 then true
 else Nb c.ro x.ZM Yd
def Wu (c:Ca)(x:Cm):Bool:=x.Z8 == [] || x.ZQ == 1 || c.ob.Z4.any fun s=>s.name == x.Z8
def Wv (c:Ca)(x:Cm):Int:=if x.ZY= []∨x.ZQ=3 then 0 else if YT c.ob=true then(if(Xz c.ob x.Z8 x.ZY).isSome=true then 0 else 61) else 63
def Wq (c:Ca)(x:Cm):Int:=
 if XP c≠0 then 1 else if UV x=false then 90 else if c.ro.ZW.contains x.ZM=false then 71 else if Wu c x=false then 61
 else if Wv c x≠0 then Wv c x else if WF c x=false then 91 else 0
theorem Qo {c:Ca}{x:Cm}(h:Wq c x=0):XP c=0∧UV x=true∧c.ro.ZW.contains x.ZM=true∧Wu c x=true∧Wv c x=0∧WF c x=true:=by
 unfold Wq at h;split at h
 ·cases h
 ·split at h
  ·cases h
  ·split at h
   ·cases h
   ·split at h
    ·cases h
    ·split at h
     ·rename_i h1 h2 h3 h4 h5;exact absurd h h5
     ·split at h
      ·cases h
      ·rename_i h1 h2 h3 h4 h5 h6;exact⟨by simpa using h1,by simpa using h2,by simpa using h3,by simpa using h4,by simpa using h5,by simpa using h6⟩
theorem Ws {c:Ca}(h:XP c=0):X7 c=true∧0≤c.ZO∧c.ZO≤1000∧0≤c.ZU∧c.ZU≤1000000000:=by
 unfold XP at h;split at h
 ·rename_i h1;simp only [Bool.and_eq_true,decide_eq_true_eq] at h1;exact⟨h1.2,h1.1.1.1.1,h1.1.1.1.2,h1.1.1.2,h1.1.2⟩
 ·cases h
theorem Vl {c:Ca}(h:X7 c=true):XT c=true∧(WD c).length=c.Z3.length:=by
 unfold X7 at h;simpa using h
def SR (c:Ca)(x:Cm):Bool:= !(decide (c.ZU<1000000000) && (!Wk x || decide (c.ZO<1000)))
def Cm.Zv (M:Nat)(x:Cm):Prop:=x.ZM.length≤M∧x.Z8.length≤M∧x.ZY.length≤M∧x.name.length≤M∧x.ZT.length≤M∧x.ZX.length≤M∧x.ZZ.Zv M∧x.ZZ.name.length≤M
end Go.Proofs.YtnhmoibjlakhjaaGreat

/- Lemmas of the proof. No condition but each theorem's own. -/
import Derived.Test.YtnhmoibjlakhjaaGreatR29
set_option linter.unusedVariables false
set_option linter.unusedSimpArgs false
namespace Go.Proofs.YtnhmoibjlakhjaaGreat
set_option maxRecDepth 100000
set_option maxHeartbeats 16000000
def Sg (k:Int):Int:=if k=2∨k=3 then 1 else if k=4∨k=5∨k=6∨k=7∨k=8∨k=9 then 2 else if k=14∨k=15 then 3 else 0
def Wq (x:Cm):Bool:=if x.ZQ=2∨x.ZQ=4∨x.ZQ=6∨x.ZQ=9∨x.ZQ=11∨x.ZQ=13∨x.ZQ=15 then true else if x.ZQ=7 then x.ZZ.ZQ != 1 else false
def VS (k:Int):Bool×Bool×Bool×Bool:=
 if k=1∨k=2 then(true,false,false,false) else if k=3∨k=4∨k=5∨k=7 then(true,true,false,false) else if k=6∨k=8 then(true,true,true,false)
 else if k=9∨k=14∨k=15 then(true,true,false,true) else if k=10∨k=11 then(false,false,false,true) else if k=12∨k=13 then(false,false,true,true) else(false,false,false,false)
def XW (k:Int):Bool:=decide (1≤k) && decide (k≤15)
def Yt (u:Bool)(s:List UInt8):Bool:=(u ==(s != [])) && (!u || Zr s)
def Ve (r:Ru):Bool:=r.ZX.length == 0 && (r.name ++r.Z8 ++r.ZY ++r.key == []) && r.ZQ == 0 && r.low == 0 && r.ZF == 0
def RE (x:Cm):Bool:=
 if x.ZQ=3 then Ve x.ZZ && x.right == 0 && !x.Zz
 else if x.ZQ=5 then Ve x.ZZ && x.right == 0 && !x.Zz && x.ZX.length == 1
 else if x.ZQ=7 then x.ZX.length == 0 && x.right == 0 && !x.Zz
 else if x.ZQ=14∨x.ZQ=15 then(x.right == 1 || x.right == 2) && Ve x.ZZ && x.ZX.length == 0 && (x.ZQ == 14 || !x.Zz)
 else Ve x.ZZ && x.ZX.length == 0 && x.right == 0 && !x.Zz
def Ri (x:Cm):Bool:=Yt (VS x.ZQ).1 x.Z8 && Yt (VS x.ZQ).2.1 x.ZY && Yt (VS x.ZQ).2.2.1 x.name && Yt (VS x.ZQ).2.2.2 x.ZT
def UV (x:Cm):Bool:=XW x.ZQ && Zr x.ZM && Ri x && RE x
def XS (c:Ca):Int:=if decide (0≤c.ZO) && decide (c.ZO≤1000) && decide (0≤c.ZU) && decide (c.ZU≤1000000000) && X6 c then 0 else 1
def Oy (c:Ca)(s:List UInt8):List UInt8:=((c.ob.Z4.find? fun x=>x.name == s).map (·.ZL)).getD []
def WG (c:Ca)(x:Cm):Bool:=
 if Sg x.ZQ=1 then MP c.ro x.ZM Yd || MP c.ro x.ZM (Oy c x.Z8)
 else if Sg x.ZQ=2 then Xp c x.ZM x.Z8 x.ZY
 else if Sg x.ZQ=3 then true
 else MP c.ro x.ZM Yd
def Wv (c:Ca)(x:Cm):Bool:=x.Z8 == [] || x.ZQ == 1 || c.ob.Z4.any fun s=>s.name == x.Z8
def Wu (c:Ca)(x:Cm):Int:=if x.ZY= []∨x.ZQ=3 then 0 else if YT c.ob=true then(if(Xs c.ob x.Z8 x.ZY).isSome=true then 0 else 61) else 63
def Wo (c:Ca)(x:Cm):Int:=
 if XS c≠0 then 1 else if UV x=false then 90 else if c.ro.ZW.contains x.ZM=false then 71 else if Wv c x=false then 61
 else if Wu c x≠0 then Wu c x else if WG c x=false then 91 else 0
theorem Qo {c:Ca}{x:Cm}(h:Wo c x=0):XS c=0∧UV x=true∧c.ro.ZW.contains x.ZM=true∧Wv c x=true∧Wu c x=0∧WG c x=true:=by
 unfold Wo at h;split at h
 ·cases h
 ·split at h
  ·cases h
  ·split at h
   ·cases h
   ·split at h
    ·cases h
    ·split at h
     ·rename_i h1 h2 h3 h4 h5;exact absurd h h5
     ·split at h
      ·cases h
      ·rename_i h1 h2 h3 h4 h5 h6;exact⟨by simpa using h1,by simpa using h2,by simpa using h3,by simpa using h4,by simpa using h5,by simpa using h6⟩
theorem Ws {c:Ca}(h:XS c=0):X6 c=true∧0≤c.ZO∧c.ZO≤1000∧0≤c.ZU∧c.ZU≤1000000000:=by
 unfold XS at h;split at h
 ·rename_i h1;simp only [Bool.and_eq_true,decide_eq_true_eq] at h1;exact⟨h1.2,h1.1.1.1.1,h1.1.1.1.2,h1.1.1.2,h1.1.2⟩
 ·cases h
theorem Vf {c:Ca}(h:X6 c=true):XT c=true∧(WE c).length=c.Z3.length:=by
 unfold X6 at h;simpa using h
def SN (c:Ca)(x:Cm):Bool:= !(decide (c.ZU<1000000000) && (!Wq x || decide (c.ZO<1000)))
def Cm.Zv (M:Nat)(x:Cm):Prop:=x.ZM.length≤M∧x.Z8.length≤M∧x.ZY.length≤M∧x.name.length≤M∧x.ZT.length≤M∧x.ZX.length≤M∧x.ZZ.Zv M∧x.ZZ.name.length≤M
end Go.Proofs.YtnhmoibjlakhjaaGreat

/- Lemmas of the proof. No condition but each theorem's own. -/
import Derived.Test.YtnhmoibjlakhjaaGreatM29
set_option linter.unusedVariables false
set_option linter.unusedSimpArgs false
namespace Go.Proofs.YtnhmoibjlakhjaaGreat
set_option maxRecDepth 100000
set_option maxHeartbeats 16000000
def Sg (k:Int):Int:=if k=2∨k=3 then 1 else if k=4∨k=5∨k=6∨k=7∨k=8∨k=9 then 2 else if k=14∨k=15 then 3 else 0
def Xa (x:Cm):Bool:=if x.ZQ=2∨x.ZQ=4∨x.ZQ=6∨x.ZQ=9∨x.ZQ=11∨x.ZQ=13∨x.ZQ=15 then true else if x.ZQ=7 then x.ZZ.ZQ != 1 else false
def VR (k:Int):Bool×Bool×Bool×Bool:=
 if k=1∨k=2 then(true,false,false,false) else if k=3∨k=4∨k=5∨k=7 then(true,true,false,false) else if k=6∨k=8 then(true,true,true,false)
 else if k=9∨k=14∨k=15 then(true,true,false,true) else if k=10∨k=11 then(false,false,false,true) else if k=12∨k=13 then(false,false,true,true) else(false,false,false,false)
def XX (k:Int):Bool:=decide (1≤k) && decide (k≤15)
def Yq (u:Bool)(s:List UInt8):Bool:=(u ==(s != [])) && (!u || Zq s)
def U5 (r:Ru):Bool:=r.ZY.length == 0 && (r.name ++r.Z8 ++r.ZX ++r.key == []) && r.ZQ == 0 && r.low == 0 && r.ZF == 0
def RD (x:Cm):Bool:=
 if x.ZQ=3 then U5 x.ZZ && x.right == 0 && !x.Zy
 else if x.ZQ=5 then U5 x.ZZ && x.right == 0 && !x.Zy && x.ZY.length == 1
 else if x.ZQ=7 then x.ZY.length == 0 && x.right == 0 && !x.Zy
 else if x.ZQ=14∨x.ZQ=15 then(x.right == 1 || x.right == 2) && U5 x.ZZ && x.ZY.length == 0 && (x.ZQ == 14 || !x.Zy)
 else U5 x.ZZ && x.ZY.length == 0 && x.right == 0 && !x.Zy
def Rh (x:Cm):Bool:=Yq (VR x.ZQ).1 x.Z8 && Yq (VR x.ZQ).2.1 x.ZX && Yq (VR x.ZQ).2.2.1 x.name && Yq (VR x.ZQ).2.2.2 x.ZR
def Va (x:Cm):Bool:=XX x.ZQ && Zq x.ZK && Rh x && RD x
def XS (c:Ca):Int:=if decide (0≤c.ZO) && decide (c.ZO≤1000) && decide (0≤c.ZU) && decide (c.ZU≤1000000000) && XD c then 0 else 1
def On (c:Ca)(s:List UInt8):List UInt8:=((c.ob.Z4.find? fun x=>x.name == s).map (·.ZN)).getD []
def WD (c:Ca)(x:Cm):Bool:=
 if Sg x.ZQ=1 then MG c.ro x.ZK Yd || MG c.ro x.ZK (On c x.Z8)
 else if Sg x.ZQ=2 then WC c x.ZK x.Z8 x.ZX
 else if Sg x.ZQ=3 then true
 else MG c.ro x.ZK Yd
def Wu (c:Ca)(x:Cm):Bool:=x.Z8 == [] || x.ZQ == 1 || c.ob.Z4.any fun s=>s.name == x.Z8
def Wt (c:Ca)(x:Cm):Int:=if x.ZX= []∨x.ZQ=3 then 0 else if YR c.ob=true then(if(Xr c.ob x.Z8 x.ZX).isSome=true then 0 else 61) else 63
def Wp (c:Ca)(x:Cm):Int:=
 if XS c≠0 then 1 else if Va x=false then 90 else if c.ro.ZW.contains x.ZK=false then 71 else if Wu c x=false then 61
 else if Wt c x≠0 then Wt c x else if WD c x=false then 91 else 0
theorem L3 {c:Ca}{x:Cm}(h:Wp c x=0):XS c=0∧Va x=true∧c.ro.ZW.contains x.ZK=true∧Wu c x=true∧Wt c x=0∧WD c x=true:=by
 unfold Wp at h;split at h
 ·cases h
 ·split at h
  ·cases h
  ·split at h
   ·cases h
   ·split at h
    ·cases h
    ·split at h
     ·rename_i h1 h2 h3 h4 h5;exact absurd h h5
     ·split at h
      ·cases h
      ·rename_i h1 h2 h3 h4 h5 h6;exact⟨by simpa using h1,by simpa using h2,by simpa using h3,by simpa using h4,by simpa using h5,by simpa using h6⟩
theorem Vg {c:Ca}(h:XS c=0):XD c=true∧0≤c.ZO∧c.ZO≤1000∧0≤c.ZU∧c.ZU≤1000000000:=by
 unfold XS at h;split at h
 ·rename_i h1;simp only [Bool.and_eq_true,decide_eq_true_eq] at h1;exact⟨h1.2,h1.1.1.1.1,h1.1.1.1.2,h1.1.1.2,h1.1.2⟩
 ·cases h
theorem U6 {c:Ca}(h:XD c=true):XT c=true∧(VX c).length=c.Z3.length:=by
 unfold XD at h;simpa using h
def ST (c:Ca)(x:Cm):Bool:= !(decide (c.ZU<1000000000) && (!Xa x || decide (c.ZO<1000)))
def Cm.Zs (M:Nat)(x:Cm):Prop:=x.ZK.length≤M∧x.Z8.length≤M∧x.ZX.length≤M∧x.name.length≤M∧x.ZR.length≤M∧x.ZY.length≤M∧x.ZZ.Zs M∧x.ZZ.name.length≤M
end Go.Proofs.YtnhmoibjlakhjaaGreat

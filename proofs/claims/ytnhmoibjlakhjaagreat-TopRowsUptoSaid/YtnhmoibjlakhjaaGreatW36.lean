/- Lemmas, each under its own conditions. -/
import Derived.Test.YtnhmoibjlakhjaaGreatW28
set_option linter.all false
namespace Go.Proofs.YtnhmoibjlakhjaaGreat
set_option maxRecDepth 100000
set_option maxHeartbeats 16000000
def PT (k:Int):Int:=if k=2∨k=3 then 1 else if k=4∨k=5∨k=6∨k=7∨k=8∨k=9 then 2 else if k=14∨k=15 then 3 else 0
def Ul (x:Cm):Bool:=if x.ZV=2∨x.ZV=4∨x.ZV=6∨x.ZV=9∨x.ZV=11∨x.ZV=13∨x.ZV=15 then true else if x.ZV=7 then x.ZX.ZV != 1 else false
def Vy (k:Int):Bool×Bool×Bool×Bool:=
 if k=1∨k=2 then(true,false,false,false) else if k=3∨k=4∨k=5∨k=7 then(true,true,false,false) else if k=6∨k=8 then(true,true,true,false)
 else if k=9∨k=14∨k=15 then(true,true,false,true) else if k=10∨k=11 then(false,false,false,true) else if k=12∨k=13 then(false,false,true,true) else(false,false,false,false)
def XC (k:Int):Bool:=decide (1<=k) && decide (k<=15)
def Yh (u:Bool)(s:List UInt8):Bool:=(u ==(s != [])) && (!u || Zw s)
def TX (r:Ru):Bool:=r.Z3.length == 0 && (r.name ++r.Z9 ++r.ZZ ++r.key == []) && r.ZV == 0 && r.low == 0 && r.ZB == 0
def Pk (x:Cm):Bool:=
 if x.ZV=3 then TX x.ZX && x.right == 0 && !x.Zq
 else if x.ZV=5 then TX x.ZX && x.right == 0 && !x.Zq && x.Z3.length == 1
 else if x.ZV=7 then x.Z3.length == 0 && x.right == 0 && !x.Zq
 else if x.ZV=14∨x.ZV=15 then(x.right == 1 || x.right == 2) && TX x.ZX && x.Z3.length == 0 && (x.ZV == 14 || !x.Zq)
 else TX x.ZX && x.Z3.length == 0 && x.right == 0 && !x.Zq
def Ra (x:Cm):Bool:=Yh (Vy x.ZV).1 x.Z9 && Yh (Vy x.ZV).2.1 x.ZZ && Yh (Vy x.ZV).2.2.1 x.name && Yh (Vy x.ZV).2.2.2 x.ZQ
def TC (x:Cm):Bool:=XC x.ZV && Zw x.ZH && Ra x && Pk x
def Xy (c:Ca):Int:=if decide (0<=c.ZO) && decide (c.ZO<=1000) && decide (0<=c.ZR) && decide (c.ZR<=1000000000) && Xf c then 0 else 1
def LE (c:Ca)(s:List UInt8):List UInt8:=((c.ob.Z7.find? fun x=>x.name == s).map (·.ZN)).getD []
def Vh (c:Ca)(x:Cm):Bool:=
 if PT x.ZV=1 then Jt c.ro x.ZH Yi || Jt c.ro x.ZH (LE c x.Z9)
 else if PT x.ZV=2 then VK c x.ZH x.Z9 x.ZZ
 else if PT x.ZV=3 then true
 else Jt c.ro x.ZH Yi
def U7 (c:Ca)(x:Cm):Bool:=x.Z9 == [] || x.ZV == 1 || c.ob.Z7.any fun s=>s.name == x.Z9
def U6 (c:Ca)(x:Cm):Int:=if x.ZZ= []∨x.ZV=3 then 0 else if Zc c.ob=true then(if(XA c.ob x.Z9 x.ZZ).isSome=true then 0 else 61) else 63
def Vt (c:Ca)(x:Cm):Int:=
 if Xy c≠0 then 1 else if TC x=false then 90 else if c.ro.ZU.contains x.ZH=false then 71 else if U7 c x=false then 61
 else if U6 c x≠0 then U6 c x else if Vh c x=false then 91 else 0
theorem NK {c:Ca}{x:Cm}(h:Vt c x=0):Xy c=0/\TC x=true:=by
 unfold Vt at h;split at h
 ·cases h
 split at h
 ·cases h
 rename_i a b;exact⟨by simpa using a,by simpa using b⟩
theorem Un {c:Ca}(h:Xy c=0):Xf c=true/\0<=c.ZO/\c.ZO<=1000/\0<=c.ZR/\c.ZR<=1000000000:=by
 unfold Xy at h;split at h
 ·rename_i d;simp only [Bool.and_eq_true,decide_eq_true_eq] at d;exact⟨d.2,d.1.1.1.1,d.1.1.1.2,d.1.1.2,d.1.2⟩
 ·cases h
theorem TY {c:Ca}(h:Xf c=true):Xz c=true/\(Vd c).length=c.Z4.length:=by
 unfold Xf at h;simpa using h
def Sa (c:Ca)(x:Cm):Bool:= !(decide (c.ZR<1000000000) && (!Ul x || decide (c.ZO<1000)))
def Cm.Zo (M:Nat)(x:Cm):Prop:=x.ZH.length<=M/\x.Z9.length<=M/\x.ZZ.length<=M/\x.name.length<=M/\x.ZQ.length<=M/\x.Z3.length<=M/\x.ZX.Zo M/\x.ZX.name.length<=M
end Go.Proofs.YtnhmoibjlakhjaaGreat

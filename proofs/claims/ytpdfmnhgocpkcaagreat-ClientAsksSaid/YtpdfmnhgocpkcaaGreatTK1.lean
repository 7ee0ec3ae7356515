/- Parts of the proof, one behind the other. -/
import Derived.Test.YtpdfmnhgocpkcaaGreatAwK2
import Derived.Test.YtpdfmnhgocpkcaaGreatProg
namespace Go.Proofs.Xw
open Go Go.Proofs.Aw
def eM:Nat->List Nat
 | 0=>[33,104]
 | 1=>[97,105]
 | 2=>[28,81]
 | 3=>[24,114]
 | 4=>[36,108]
 | 5=>[34,110]
 | 6=>[35,135]
 | 7=>[94,107]
 | 8=>[92,109]
 | _=>[]
def jn:Nat->Int×Int
 | 0=>(0,2)
 | 1=>(0,1)
 | 2=>(0,1)
 | 3=>(0,1099511627776)
 | 4=>(-16384,16384)
 | 5=>(-16384,16384)
 | 7=>(-1,3)
 | 8=>(0,3)
 | _=>(0,1099511627776)
def vI (vs:List Value) (i:Nat):Int:=match vs[i]? with
 | some (.int _ v)=>v
 | _=>0
def xr (x y:Int):AV := .sc (.complex .f64 (fv x false) (fv y false))
def DI:Nat->List Value->List AV
 | 1,vs | 2,vs | 7,vs=>[.agg (vs.map .sc)]
 | 3,vs=>[.ro 20 [vs.map .sc] false]
 | 6,vs=>[xr (vI vs 0) (vI vs 1),xr (vI vs 2) (vI vs 3)]
 | 8,vs=>[xr (vI vs 0) (vI vs 1),.ro 1 ((List.range (vs.length / 2-1)).map fun k=>[xr (vI vs (2*k+2)) (vI vs (2*k+3))]) false]
 | _,vs=>vs.map .sc
def I3:Nat->(Nat->Int)->AV
 | 1,g | 2,g => .sc (.bool (g 0==1))
 | 3,g => .agg ((List.range 9).map fun j => .sc (.int .i64 (g j)))
 | 4,g | 5,g=>xr (g 0) (g 1)
 | _,g => .sc (.int .i64 (g 0))
def dst (vs:List Value) (a b:Nat):Int:=(vI vs a-vI vs b)*(vI vs a-vI vs b)+(vI vs (a+1)-vI vs (b+1))*(vI vs (a+1)-vI vs (b+1))
def wx (vs:List Value) (k:Nat):Int:=max (max 0 (vI vs (9+k))) (if vI vs 0*3+vI vs 1=k then vI vs 2 else 0)
def ufP:Nat->List Value->(Nat->Int)->Prop
 | 1,vs,g=>g 0=1->1<=vI vs 1/\vI vs 1<=4/\∀k:Nat,(k:Int)<vI vs 1->0<=vI vs (2+2*k)/\vI vs (2+2*k)<=3
 | 2,vs,g=>g 0=1->(0<=vI vs 0/\vI vs 0<=2)/\(0<=vI vs 1/\vI vs 1<=2)/\(1<=vI vs 2/\vI vs 2<=1099511627776)/\∀k:Nat,k<9->0<=vI vs (9+k)/\vI vs (9+k)<=1099511627776
 | 3,vs,g=>∀k:Nat,k<9->g k=wx vs k
 | 6,vs,g=>g 0=dst vs 0 2
 | 8,vs,g=>g 0<vs.length / 2-1/\∀k:Nat,k<vs.length / 2-1->dst vs 0 (2*(g 0).toNat+2)<=dst vs 0 (2*k+2)
 | _,_,_=>True
structure j8 (k:Nat) (vs:List Value) (g:Nat->Int):Prop where
 qK:∀f∈eM k,∀n h,CY Tryz.prog n f (DI k vs) h (I3 k g) []
 sw:∀j,(jn k).1<=g j/\g j<=(jn k).2
 pr:ufP k vs g
noncomputable def UF (k:Nat) (vs:List Value) (j:Nat):Int:=max (jn k).1 (min (Classical.epsilon (j8 k vs) j) (jn k).2)
theorem gT {k:Nat} {vs:List Value} {g:Nat->Int} (h:j8 k vs g):j8 k vs (UF k vs):=by
 have e:=Classical.epsilon_spec ⟨g,h⟩
 have:UF k vs=Classical.epsilon (j8 k vs):=funext fun j=>by
  have:=e.sw j
  unfold UF
  omega
 rw[this];exact e
theorem atf (k:Nat):(jn k).1<=(jn k).2:=by unfold jn;split<;>decide
theorem uF (k:Nat) (vs:List Value) (j:Nat):(jn k).1<=UF k vs j/\UF k vs j<=(jn k).2:=by
 have:=atf k
 unfold UF;omega
end Go.Proofs.Xw

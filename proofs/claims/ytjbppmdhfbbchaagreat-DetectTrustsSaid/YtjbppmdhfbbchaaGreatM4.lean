/-
  Parts of a proof.
-/
import Derived.Test.YtjbppmdhfbbchaaGreatM2
import Derived.Test.YtjbppmdhfbbchaaGreatM3
set_option linter.unusedSimpArgs false
set_option linter.unusedVariables false
section
namespace Go.Am
noncomputable section
set_option maxRecDepth 20000
def J5n(x1:Int×Js):Option (Bool):=if geI x1.1 0 then some (ltI x1.1 x1.2.1)else some false
def J4t(x1:J1y):Option (Bool):=if leI (J0 x1.2) 12 then if x1.1=false then some (eqS x1.2 [])else some true else some false
def J9q(x1:Int):Option (Bool):=if geI x1 0 then some (ltI x1 64)else some false
def J74(x1:J1u):Option (Bool):=(J9q x1.1).bind λg=>if g then if geI x1.2.1 0 then if ltI x1.2.1 16 then(J4t x1.2.2.1).bind λe=>if e then(J4t x1.2.2.2).bind λh=>some h else some false else some false else some false else some false
def J4o(x1:J1u):Option (Bool):=some (eqT J0A x1 (0,0,(false,[]),false,[]))
def J1Q(x1:Js):Option (Bool):=some true
def J7A(x1:Js):Option (Bool):=if geI x1.2.2.2.2.2.1 1 then some (leI x1.2.2.2.2.2.1 x1.2.2.2.1)else some false
def J7E(x1:J1u):Option (Bool):=if eqT J0A x1 (x1.1,0,(false,[]),false,[])then if geI x1.1 0 then some (ltI x1.1 64)else some false else some false
def JCt(x1:Unit):Option (Bool×Bool×Bool×Bool×Bool×Unit×Unit×Bool×Bool×Bool×Bool×Bool×Bool×Bool×Bool×Bool×Bool×Bool×Bool×Bool×Bool×Bool×Bool×Bool×Bool×Bool×Bool×Bool×Bool×Bool×Bool×Bool×Bool×Bool×Bool×Bool×Bool×Bool×Bool×Bool×Bool×Bool×Bool×Bool×Bool×Bool×Bool):=some (false,false,false,false,false,(),(),true,false,true,false,false,true,true,true,true,false,true,true,false,false,false,true,true,false,false,false,true,true,false,false,false,false,false,false,false,true,false,false,false,true,false,false,false,false,false,true)
def Jao(x1:Js):Option (Bool):=if ltI x1.1 1=false then if gtI x1.1 1099511627776=false then if ltI x1.2.1 1=false then if gtI x1.2.1 8=false then(J5n (x1.2.2.2.1,x1)).bind λE=>if Jr E=false then(J5n (x1.2.2.2.2.1,x1)).bind λy=>if Jr y=false then(J5n (x1.2.2.2.2.2.1,x1)).bind λD=>if Jr D then some false else if eqI x1.2.1 8 then if neI x1.2.2.1 0=false then if neI x1.2.2.2.1 0 then some false else if neI x1.2.2.2.2.1 0 then some false else if neI x1.2.2.2.2.2.1 0 then some false else if leI (J0 x1.2.2.2.2.2.2.2) 8192 then(J1Q x1).bind λA=>if A then(J4o x1.2.2.2.2.2.2.1).bind λB=>some B else some false else some false else some false else if eqI x1.2.1 7 then if neI x1.2.2.1 0=false then if neI x1.2.2.2.1 0 then some false else if neI x1.2.2.2.2.1 0 then some false else if neS x1.2.2.2.2.2.2.2 []then some false else if leI (J0 x1.2.2.2.2.2.2.2) 8192 then(J1Q x1).bind λx=>if x then(J7E x1.2.2.2.2.2.2.1).bind λz=>some z else some false else some false else some false else if eqI x1.2.1 6 then if neI x1.2.2.1 0=false then if neI x1.2.2.2.1 0 then some false else if neI x1.2.2.2.2.1 0 then some false else if neI x1.2.2.2.2.2.1 0 then some false else if leI (J0 x1.2.2.2.2.2.2.2) 8192 then(J1Q x1).bind λC=>if C then(J4o x1.2.2.2.2.2.2.1).bind λe=>some e else some false else some false else some false else if eqI x1.2.1 5 then if ltI x1.2.2.1 1=false then if gtI x1.2.2.1 1073741824 then some false else if eqI x1.2.2.2.1 0 then some false else if neI x1.2.2.2.2.1 0 then some false else if neI x1.2.2.2.2.2.1 0 then some false else if neS x1.2.2.2.2.2.2.2 []then some false else if leI (J0 x1.2.2.2.2.2.2.2) 8192 then(J1Q x1).bind λw=>if w then(J4o x1.2.2.2.2.2.2.1).bind λv=>some v else some false else some false else some false else if eqI x1.2.1 4 then if ltI x1.2.2.1 1=false then if gtI x1.2.2.1 1073741824 then some false else if eqI x1.2.2.2.1 0 then some false else if neI x1.2.2.2.2.1 0 then some false else if neI x1.2.2.2.2.2.1 0 then some false else if neS x1.2.2.2.2.2.2.2 []then some false else if leI (J0 x1.2.2.2.2.2.2.2) 8192 then(J1Q x1).bind λg=>if g then(J4o x1.2.2.2.2.2.2.1).bind λq=>some q else some false else some false else some false else if eqI x1.2.1 3 then if ltI x1.2.2.1 1=false then if gtI x1.2.2.1 1073741824 then some false else if eqI x1.2.2.2.1 0 then some false else if neI x1.2.2.2.2.1 0 then some false else if neI x1.2.2.2.2.2.1 0 then some false else if neS x1.2.2.2.2.2.2.2 []then some false else if leI (J0 x1.2.2.2.2.2.2.2) 8192 then(J1Q x1).bind λh=>if h then(J4o x1.2.2.2.2.2.2.1).bind λr=>some r else some false else some false else some false else if eqI x1.2.1 2 then if ltI x1.2.2.1 1=false then if gtI x1.2.2.1 1073741824 then some false else if eqI x1.2.2.2.1 0 then some false else if neS x1.2.2.2.2.2.2.2 []then some false else if leI (J0 x1.2.2.2.2.2.2.2) 8192 then(J7A x1).bind λj=>if j then(J74 x1.2.2.2.2.2.2.1).bind λk=>some k else some false else some false else some false else if eqI x1.2.1 1 then if ltI x1.2.2.1 1=false then if gtI x1.2.2.1 1073741824 then some false else if neI x1.2.2.2.2.2.1 0 then some false else if neS x1.2.2.2.2.2.2.2 []then some false else if leI (J0 x1.2.2.2.2.2.2.2) 8192 then(J1Q x1).bind λo=>if o then(J74 x1.2.2.2.2.2.2.1).bind λn=>some n else some false else some false else some false else if eqI x1.2.1 0 then if neI x1.2.2.1 0=false then if neI x1.2.2.2.1 0 then some false else if neI x1.2.2.2.2.1 0 then some false else if neI x1.2.2.2.2.2.1 0 then some false else if neS x1.2.2.2.2.2.2.2 []then some false else if leI (J0 x1.2.2.2.2.2.2.2) 8192 then none else some false else some false else none else some false else some false else some false else some false else some false else some false
def JaM(x1:J04):Option (Int):=some (JI .i64 (J2 .i64 x1.1 (J0 x1.2.1)) 1)
def J9M:JS7->Option ((JS7)⊕Bool):=fun(h,g,e,j)=>if ltI e g then(idx h e).bind λk=>if neI k.1 (J2 .i64 j.1 e)=false then(Jao k).bind λn=>if Jr n then some (.inr false)else some (.inl (h,g,J2 .i64 e 1,j))else some (.inr false)else some (.inr true)
def J6i(x1:J04):Option (Bool):=if ltI x1.1 1=false then if gtI x1.1 1099511627776=false then if gtI (J0 x1.2.1) 4096=false then if ltI x1.2.2 (JI .i64 x1.1 1)=false then(JaM x1).bind λe=>if gtI x1.2.2 e then some false else Jc (J9M) (x1.2.1,J0 x1.2.1,0,x1)else some false else some false else some false else some false
def J2R(x1:T_api_Row):Option (Bool):=if geI x1.1 x1.2.1 then some (leI x1.1 x1.2.2)else some false
def Jd9:JRp->Option ((JRp)⊕Bool):=fun(h,e,g)=>if ltI e 16 then(JrE h e).bind λj=>if gtI (J0 j.2) 12=false then if Jr j.1 then if neS j.2 []=false then if j.1 then if eqI g.2.1 0 then some (.inr false)else some (.inl (h,J2 .i64 e 1,g))else some (.inl (h,J2 .i64 e 1,g))else some (.inr false)else if j.1 then if eqI g.2.1 0 then some (.inr false)else some (.inl (h,J2 .i64 e 1,g))else some (.inl (h,J2 .i64 e 1,g))else some (.inr false)else some (.inr true)
def J3E(x1:Jy):Option (Bool):=Jc (Jd9) (x1.2.2,0,x1)
def J8G(x1:Int):Option (Bool):=if geI x1 0 then some (ltI x1 64)else some false
def J7W(x1:Jy):Option (Bool):=(J8G x1.1).bind λe=>if e then if geI x1.2.1 0 then some (leI x1.2.1 1099511627776)else some false else some false
def Jcn(x1:Jy):Option (Bool):=(J7W x1).bind λg=>if g then(J3E x1).bind λe=>some e else some false
def J9o(x1:JP×Int):Option (Bool×Int):=some (eqI x1.1.1.1 x1.2,x1.2)
def J3d(z2:(List JP)×T_api_Row):Option (((List JP)×T_api_Row)⊕JA):=if ltI z2.2.2.1 z2.2.1 then(idx z2.1 z2.2.2.1).bind λg=>(J9o (g,z2.2.2.2)).bind λe=>if e.1 then some (.inr (z2.2.2.1,e.2))else some (.inl (z2.1,z2.2.1,J2 .i64 z2.2.2.1 1,e.2))else some (.inr ((-1),z2.2.2.2))
def J0W(x1:(List JP)×Int):Option (JA):=Jc (J3d) (x1.1,J0 x1.1,0,x1.2)
def J8b(x1:J4A):Option (Int):=(J0W (x1.1.2.1,x1.2)).bind λe=>some e.1
def Jd8:JRX->Option ((JRX)⊕Bool):=fun(g,j,e,h)=>if ltI e j then(idx g e).bind λk=>(Jcn k.1).bind λn=>if Jr n=false then(J8b (h,k.1.1)).bind λo=>if neI o e then some (.inr false)else if k.2.1 then if ltI k.2.2.1 1=false then if gtI k.2.2.1 k.1.2.1=false then if Jr k.2.1 then if neI k.2.2.1 0 then some (.inr false)else some (.inl (g,j,J2 .i64 e 1,h))else some (.inl (g,j,J2 .i64 e 1,h))else some (.inr false)else some (.inr false)else if Jr k.2.1 then if neI k.2.2.1 0 then some (.inr false)else some (.inl (g,j,J2 .i64 e 1,h))else some (.inl (g,j,J2 .i64 e 1,h))else some (.inr false)else some (.inr true)
def J76(x1:J00):Option (Bool):=if ltI x1.1 1=false then if gtI x1.1 64=false then if gtI (J0 x1.2.1) x1.1=false then if ltI x1.2.2 0=false then if geI x1.2.2 (J4a 1 (J0 x1.2.1))then some false else Jc (Jd8) (x1.2.1,J0 x1.2.1,0,x1)else some false else some false else some false else some false
def J5e(x1:J4A):Option (Int):=(J76 x1.1).bind λg=>if Jr g then some (-1)else(J8b x1).bind λe=>some e
def J96:JSX->Option ((JSX)⊕Bool):=fun(j,k,e,g)=>if ltI e k then(idx j e).bind λh=>(J2R (h.1,0,JI .i64 g.1 1)).bind λq=>if Jr q=false then if gtI e 0 then(idx g.2.2.2.2.2.2.2 (JI .i64 e 1)).bind λr=>if geI r.1 h.1=false then if ltI h.2.1 1=false then if gtI h.2.1 h.2.2=false then if gtI h.2.2 1099511627776=false then(J5e (g.2.2.2.1,h.1)).bind λo=>if geI o 0 then some (.inr false)else some (.inl (j,k,J2 .i64 e 1,g))else some (.inr false)else some (.inr false)else some (.inr false)else some (.inr false)else if ltI h.2.1 1=false then if gtI h.2.1 h.2.2=false then if gtI h.2.2 1099511627776=false then(J5e (g.2.2.2.1,h.1)).bind λn=>if geI n 0 then some (.inr false)else some (.inl (j,k,J2 .i64 e 1,g))else some (.inr false)else some (.inr false)else some (.inr false)else some (.inr false)else some (.inr true)
def J5x(x1:J6):Option (Bool):=Jc (J96) (x1.2.2.2.2.2.2.2,J0 x1.2.2.2.2.2.2.2,0,x1)
def J7F(x1:Jef):Option (Bool):=if neI x1.1.1 x1.2.1 then if eqT JY x1.1.2.1 x1.2.2.1 then if eqI x1.1.2.2 2=false then some (eqI x1.2.2.2 2)else some true else some false else some false
def J6o(x1:Int):Option (Bool):=some (neI x1 x1)
def J3O(x1:JA):Option (Int):=(J6o x1.1).bind λg=>(J6o x1.2).bind λe=>if g then if e then some 0 else some (-1)else if e then some 1 else if ltI x1.1 x1.2 then some (-1)else if gtI x1.1 x1.2 then some 1 else some 0
def JjV:Int×(List Int)×JA->Option ((Int×(List Int)×JA)⊕Int):=fun(g,h,e)=>if ltI e.2 e.1 then(idx h e.2).bind λj=>if neI j g then some (.inr j)else some (.inl (g,h,e.1,J2 .i64 e.2 1))else some (.inr g)
def Jbu(x1:List Int):Option (Int):=Jc (JjV) (0,x1,J0 x1,0)
def J68(x1:Jef):Option (Int):=(J3O (x1.1.2.1.1,x1.2.2.1.1)).bind λg=>(J3O (x1.1.2.1.2,x1.2.2.1.2)).bind λe=>(J3O (x1.1.1,x1.2.1)).bind λh=>(Jbu [g,e,h]).bind λj=>some j
def J1L:JSE->Option ((JSE)⊕(Int×Bool)):=fun(h,k,e,j,g)=>if ltI e j then(JbG .u64 (cvI .u64 (J2 .i64 e j)) 1).bind λn=>(idx h (cvI .i64 n)).bind λr=>(J68 (r,g)).bind λv=>if ltI v 0 then some (.inl (h,k,J2 .i64 (cvI .i64 n) 1,j,g))else some (.inl (h,k,e,cvI .i64 n,g))else Option.map .inr (if ltI e k then(idx h e).bind λq=>(J68 (q,g)).bind λo=>some (e,eqI o 0)else some (e,false))
def J0z(x1:JiN):Option (Int×Bool):=Jc (J1L) (x1.1,J0 x1.1,0,J0 x1.1,x1.2)
def Jcj(x1:(List T_api_Grant)×T_api_Row):Option (Int×Bool):=(J0z (x1.1,x1.2.1,x1.2.2,0)).bind λe=>some e
def JbL(x1:Js0):Option (Int):=(Jcj (x1.1.1,x1.2)).bind λe=>if e.2 then(idx x1.1.1 e.1).bind λg=>some g.2.2 else some 0
def J7P(x1:T_api_Grant):Option (Bool):=if geI x1.1 1 then if leI x1.1 1073741824 then if geI x1.2.1.1 0 then if ltI x1.2.1.1 64 then if geI x1.2.1.2 0 then if ltI x1.2.1.2 16 then if eqI x1.2.2 1=false then some (eqI x1.2.2 2)else some true else some false else some false else some false else some false else some false else some false
def J7v(x1:Jef):Option (Bool×T_api_Grant):=some (eqI x1.1.1 x1.2.1,x1.2)
def J3c:JSz->Option ((JSz)⊕(Int×T_api_Grant)):=fun(g,j,e,h)=>if ltI e j then(idx g e).bind λn=>(J7v (n,h)).bind λk=>if k.1 then some (.inr (e,k.2))else some (.inl (g,j,J2 .i64 e 1,k.2))else some (.inr ((-1),h))
def J1j(x1:JiN):Option (Int×T_api_Grant):=Jc (J3c) (x1.1,J0 x1.1,0,x1.2)
def J1f(x1:JiN):Option (Bool×T_api_Grant):=(J1j x1).bind λe=>some (geI e.1 0,e.2)
def J8n:JMo->Option ((JMo)⊕Bool):=fun(j,k,e,h)=>if ltI e k then(idx j e).bind λg=>(J7P g).bind λq=>if Jr q=false then(JbL (h,g.1,g.2.1)).bind λo=>if geI o g.2.2=false then(J0Q h.2 none (some e)).bind λr=>(J1f (r,g)).bind λn=>if n.1 then some (.inr false)else some (.inl (j,k,J2 .i64 e 1,h))else some (.inr false)else some (.inr false)else some (.inr true)
def Jck:JMo->Option ((JMo)⊕Bool):=fun(h,j,e,g)=>if ltI e j then(idx h e).bind λk=>(J7P k).bind λr=>if Jr r=false then if gtI e 0 then(idx g.1 (JI .i64 e 1)).bind λv=>(J68 (v,k)).bind λo=>if geI o 0=false then(idx g.1 (JI .i64 e 1)).bind λn=>(J7F (n,k)).bind λq=>if q then some (.inr false)else some (.inl (h,j,J2 .i64 e 1,g))else some (.inr false)else some (.inl (h,j,J2 .i64 e 1,g))else some (.inr false)else Option.map .inr (Jc (J8n) (g.2,J0 g.2,0,g))
def J80(x1:JX):Option (Bool):=if gtI (J2 .i64 (J0 x1.1) (J0 x1.2)) 1024 then some false else Jc (Jck) (x1.1,J0 x1.1,0,x1)
def J2J(x1:Int):Option (Bool):=if geI x1 0 then some (leI x1 1099511627776)else some false
def J58(x1:T_api_Row):Option (Bool):=(J2J x1.1).bind λg=>if Jr g=false then(J2J x1.2.1).bind λe=>if Jr e=false then(J2J x1.2.2).bind λh=>if Jr h=false then if eqI x1.2.1 0 then some (neI x1.2.2 0)else some false else some true else some true else some true
def J13(z2:JMn):Option ((JMn)⊕Int):=if ltI z2.2.2 z2.2.1 then(idx z2.1 z2.2.2).bind λe=>(J58 e).bind λg=>if g then some (.inr z2.2.2)else some (.inl (z2.1,z2.2.1,J2 .i64 z2.2.2 1))else some (.inr (-1))
def J1a(x1:List T_api_Row):Option (Int):=Jc (J13) (x1,J0 x1,0)
def J0m(x1:List T_api_Row):Option (Bool):=(J1a x1).bind λe=>some (geI e 0)
def J3P(x1:List T_api_Row):Option (Bool):=if geI (J0 x1) 1 then if leI (J0 x1) 64 then(J0m x1).bind λe=>some (Jr e)else some false else some false
def J7X:JSA->Option ((JSA)⊕Bool):=fun(j,n,g,k,h,e)=>if ltI e.2 e.1 then(idx h e.2).bind λo=>if ltI o n=false then if gtI o g=false then if gtI e.2 0 then(idx j (JI .i64 e.2 1)).bind λq=>if gtI (J2 .i64 q k) o then some (.inr false)else some (.inl (j,n,g,k,h,e.1,J2 .i64 e.2 1))else some (.inl (j,n,g,k,h,e.1,J2 .i64 e.2 1))else some (.inr false)else some (.inr false)else some (.inr true)
def J1x(x1:(List Int)×T_api_Row):Option (Bool):=Jc (J7X) (x1.1,x1.2.1,x1.2.2.1,x1.2.2.2,x1.1,J0 x1.1,0)
def J56(x1:Jq):Option (Bool):=if eqI x1.2.2.2.1 0=false then if eqI x1.2.1 2 then if gtI x1.2.2.2.1 0 then if geI x1.1 1 then if leI x1.1 1073741824 then if geI x1.2.1 1 then if leI x1.2.1 3 then if geI x1.2.2.1 0 then if leI x1.2.2.1 1099511627776 then if leI x1.2.2.2.1 x1.2.2.1 then if leI (J0 x1.2.2.2.2.1) 4096 then(J1x (x1.2.2.2.2.1,1,x1.2.2.1,1)).bind λg=>if g then if leI (J0 x1.2.2.2.2.2) 8 then(J1x (x1.2.2.2.2.2,0,x1.2.2.1,0)).bind λe=>some e else some false else some false else some false else some false else some false else some false else some false else some false else some false else some false else if geI x1.1 1 then if leI x1.1 1073741824 then if geI x1.2.1 1 then if leI x1.2.1 3 then if geI x1.2.2.1 0 then if leI x1.2.2.1 1099511627776 then some false else some false else some false else some false else some false else some false else some false else if geI x1.1 1 then if leI x1.1 1073741824 then if geI x1.2.1 1 then if leI x1.2.1 3 then if geI x1.2.2.1 0 then if leI x1.2.2.1 1099511627776 then some false else some false else some false else some false else some false else some false else some false else if geI x1.1 1 then if leI x1.1 1073741824 then if geI x1.2.1 1 then if leI x1.2.1 3 then if geI x1.2.2.1 0 then if leI x1.2.2.1 1099511627776 then if leI (J0 x1.2.2.2.2.1) 4096 then(J1x (x1.2.2.2.2.1,1,x1.2.2.1,1)).bind λh=>if h then if leI (J0 x1.2.2.2.2.2) 8 then(J1x (x1.2.2.2.2.2,0,x1.2.2.1,0)).bind λj=>some j else some false else some false else some false else some false else some false else some false else some false else some false else some false
def J6C:JRw->Option ((JRw)⊕Bool):=fun(g,h,e)=>if ltI e.2 e.1 then(idx h e.2).bind λj=>(J56 j).bind λk=>if Jr k=false then if gtI e.2 0 then(idx g (JI .i64 e.2 1)).bind λn=>if geI n.1 j.1 then some (.inr false)else some (.inl (g,h,e.1,J2 .i64 e.2 1))else some (.inl (g,h,e.1,J2 .i64 e.2 1))else some (.inr false)else some (.inr true)
def J3K(x1:List Jq):Option (Bool):=if gtI (J0 x1) 64 then some false else Jc (J6C) (x1,x1,J0 x1,0)
def J6Q(x1:Jq×J6):Option (Js3):=some (geI x1.1.1 x1.2.2.1,x1.2)
def J1B:JRF->Option ((JRF)⊕(J5b)):=fun(g,j,e,h)=>if ltI e j then(idx g e).bind λn=>(J6Q (n,h)).bind λk=>if k.1 then some (.inr (e,k.2))else some (.inl (g,j,J2 .i64 e 1,k.2))else some (.inr ((-1),h))
def J1R(x1:JLX):Option (J5b):=Jc (J1B) (x1.1,J0 x1.1,0,x1.2)
def J17(x1:JLX):Option (Js3):=(J1R x1).bind λe=>some (geI e.1 0,e.2)
def J6Y(x1:JP×J6):Option (Js3):=some (geI x1.1.1.1 x1.2.1,x1.2)
def J3a:JRU->Option ((JRU)⊕(J5b)):=fun(g,j,e,h)=>if ltI e j then(idx g e).bind λn=>(J6Y (n,h)).bind λk=>if k.1 then some (.inr (e,k.2))else some (.inl (g,j,J2 .i64 e 1,k.2))else some (.inr ((-1),h))
def J0B(x1:JLT):Option (J5b):=Jc (J3a) (x1.1,J0 x1.1,0,x1.2)
def J0p(x1:JLT):Option (Js3):=(J0B x1).bind λe=>some (geI e.1 0,e.2)
def J6P(x1:T_api_Grant×J6):Option (Js3):=some (geI x1.1.2.1.1 x1.2.1,x1.2)
def J3b:JSZ->Option ((JSZ)⊕(J5b)):=fun(g,j,e,h)=>if ltI e j then(idx g e).bind λn=>(J6P (n,h)).bind λk=>if k.1 then some (.inr (e,k.2))else some (.inl (g,j,J2 .i64 e 1,k.2))else some (.inr ((-1),h))
def J0C(x1:JLf):Option (J5b):=Jc (J3b) (x1.1,J0 x1.1,0,x1.2)
def J0d(x1:JLf):Option (Js3):=(J0C x1).bind λe=>some (geI e.1 0,e.2)
def J3o(x1:J6):Option (Bool):=(J2R (x1.1,1,64)).bind λr=>if Jr r=false then(J2R (x1.2.1,1,1073741825)).bind λq=>if Jr q=false then if neI (J0 x1.2.2.2.2.2.2.1) x1.1 then some false else(J6i x1.2.2.1).bind λw=>if Jr w=false then(J76 x1.2.2.2.1).bind λx=>if Jr x=false then(J80 x1.2.2.2.2.1).bind λo=>if Jr o=false then(J3K x1.2.2.2.2.2.1).bind λn=>if Jr n=false then(J3P x1.2.2.2.2.2.2.1).bind λv=>if Jr v then some false else(J17 (x1.2.2.2.2.2.1,x1)).bind λj=>if Jr j.1 then(J0p (j.2.2.2.2.1.2.1,j.2)).bind λe=>if Jr e.1 then(J0d (e.2.2.2.2.2.1.1,e.2)).bind λg=>if Jr g.1 then(J0d (g.2.2.2.2.2.1.2,g.2)).bind λh=>if Jr h.1 then(J5x h.2).bind λk=>some k else some false else some false else some false else some false else some false else some false else some false else some false else some false else some false
def J7G(x1:T_api_Row×Int):Option (Bool×Int):=some (eqI x1.1.1 x1.2,x1.2)
def J3e(z2:(List T_api_Row)×T_api_Row):Option (((List T_api_Row)×T_api_Row)⊕JA):=if ltI z2.2.2.1 z2.2.1 then(idx z2.1 z2.2.2.1).bind λg=>(J7G (g,z2.2.2.2)).bind λe=>if e.1 then some (.inr (z2.2.2.1,e.2))else some (.inl (z2.1,z2.2.1,J2 .i64 z2.2.2.1 1,e.2))else some (.inr ((-1),z2.2.2.2))
def J0V(x1:Jdx):Option (JA):=Jc (J3e) (x1.1,J0 x1.1,0,x1.2)
def J6a(x1:J1l):Option (Int):=(J0V (x1.1.2.2.2.2.2.2.2,x1.2)).bind λe=>some e.1
def J9C(x1:J4A):Option (JwM):=(J5e x1).bind λe=>if geI e 0 then(idx x1.1.2.1 e).bind λg=>some (g.1,true)else some ((0,0,Vector.replicate 16 (false,[])),false)
def J4x(x1:J1l):Option (Int):=(J9C (x1.1.2.2.2.1,x1.2)).bind λg=>if g.2 then some g.1.2.1 else(J6a x1).bind λe=>if geI e 0 then(idx x1.1.2.2.2.2.2.2.2 e).bind λj=>some j.2.2 else(J2R (x1.2,0,JI .i64 x1.1.1 1)).bind λk=>if k then(idx x1.1.2.2.2.2.2.2.1 x1.2).bind λh=>some h.1 else some 0
def J5X(x1:J1l):Option (Int):=(J3o x1.1).bind λg=>if Jr g=false then(J2R (x1.2,0,JI .i64 x1.1.1 1)).bind λe=>if Jr e then some 0 else(J4x x1).bind λh=>some h else some 0
def JbM:JST->Option ((JST)⊕((JOB)⊕(Vector Int 16))):=fun(e,h,k,n,j,g)=>if ltI n 4 then if eqI (JiA .u32 h 1) 1 then(JbG .u32 h 1).bind λo=>some (.inl (e,J4f .u32 o 2197175160,k,J2 .i64 n 1,j,g))else(JbG .u32 h 1).bind λq=>some (.inl (e,q,k,J2 .i64 n 1,j,g))else Option.map .inr ((inb 16 e).bind λ_=>(vat g (Int.toNat e)).bind λ_=>some (.inl (J2 .i64 k 1,j,J9U g (Int.toNat e) h)))
def Jc7:JOB->Option ((JOB)⊕(Vector Int 16)):=fun(e,h,g)=>if ltI e 16 then Jc (JbM) (e,cvI .u32 e,e,0,h,g)else some (.inr g)
def J6q(x1:Unit):Option (Vector Int 16):=Jc (Jc7) (0,Vector.replicate 16 0,Vector.replicate 16 0)
def Jnz:JRn->Option ((JRn)⊕Int):=fun(k,e,j,h,g)=>if ltI h j then(Jgk k h).bind λo=>(JbG .u32 (J4f .u32 e (cvI .u32 o)) 4).bind λq=>(inb 16 (JiA .u32 (J4f .u32 e (cvI .u32 o)) 15)).bind λ_=>(vat g (Int.toNat (JiA .u32 (J4f .u32 e (cvI .u32 o)) 15))).bind λn=>(JbG .u32 (J4f .u32 q n) 4).bind λv=>(inb 16 (JiA .u32 (J4f .u32 q n) 15)).bind λ_=>(vat g (Int.toNat (JiA .u32 (J4f .u32 q n) 15))).bind λr=>some (.inl (k,J4f .u32 v r,j,J2 .i64 h 1,g))else some (.inr (JKw .u32 e))
def Ja2(x1:List UInt8):Option (Int):=(J6q ()).bind λe=>Jc (Jnz) (x1,4294967295,J0 x1,0,e)
def J4h(x:J2A):Option (List UInt8):=JSx x
def Jc8(x1:Unit):Option (List UInt8):=(J4h ([0],256)).bind λe=>some e
def J5f(x:JZ):Option (List UInt8):=JS8 x
def J5N(x1:J1y×(List UInt8)):Option (List UInt8):=if x1.1.1 then(J5f (x1.2,J0 x1.1.2,1)).bind λj=>(J3Y j x1.1.2).bind λh=>(J4h ([0],JI .i64 12 (J0 x1.1.2))).bind λo=>(J3Y h o).bind λq=>some q else(J5f (x1.2,255,1)).bind λg=>(J3Y g x1.1.2).bind λe=>(J4h ([0],JI .i64 12 (J0 x1.1.2))).bind λn=>(J3Y e n).bind λk=>some k
def Jhy:JRu->Option ((JRu)⊕(J2A)):=fun(h,g,j,e)=>if ltI g 16 then(JrE h g).bind λr=>(J5N (r,e)).bind λw=>some (.inl (h,J2 .i64 g 1,j,w))else Option.map .inr ((J4h ([0],JI .i64 244 (J0 e))).bind λv=>(J3Y e v).bind λk=>(Ja2 k).bind λo=>(J5f (k,cvI .i64 o,4)).bind λn=>(J5f (n,j.2.1,8)).bind λq=>some (q,0))
def JaJ(x1:Jy):Option (J2A):=(J7W x1).bind λg=>if Jr g then some ([],1)else(J3E x1).bind λe=>if Jr e then some ([],22)else(J5f ([],x1.2.1,8)).bind λh=>(J5f (h,x1.1,4)).bind λj=>Jc (Jhy) (x1.2.2,0,x1,j)
def Jeh:(List UInt8)×Int×Int×JA->Option (((List UInt8)×Int×Int×JA)⊕JA):=fun(h,j,g,e)=>if ltI e.2 e.1 then(Jgk h (J2 .i64 j e.2)).bind λk=>(Jru .u64 (cvI .u64 k) (J20 .i64 8 e.2)).bind λn=>some (.inl (h,j,orI .u64 g n,e.1,J2 .i64 e.2 1))else some (.inr (cvI .i64 g,0))
def J8c(x1:JZ):Option (JA):=if ltI x1.2.2 1=false then if gtI x1.2.2 8=false then if ltI x1.2.1 0 then some (0,1)else if gtI x1.2.1 (J0 x1.1)=false then if ltI (JI .i64 (J0 x1.1) x1.2.1) x1.2.2 then some (0,5)else Jc (Jeh) (x1.1,x1.2.1,0,x1.2.2,0)else some (0,5)else some (0,1)else some (0,1)
def J4P(x1:JZ):Option (Int):=(J8c x1).bind λe=>some e.1
def Jo4:JM1->Option ((JM1)⊕(JwM)):=fun(h,e,j,g)=>if ltI e 16 then(J4P (h,J2 .i64 12 (J20 .i64 e 13),1)).bind λk=>if eqI k 255 then some (.inl (h,J2 .i64 e 1,j,g))else if gtI k 12 then some (.inr ((0,0,Vector.replicate 16 (false,[])),false))else(J0Q h (some (J2 .i64 (J2 .i64 12 (J20 .i64 e 13)) 1)) (some (J2 .i64 (J2 .i64 (J2 .i64 12 (J20 .i64 e 13)) 1) k))).bind λn=>(inb 16 e).bind λ_=>(vat g.2.2 (Int.toNat e)).bind λ_=>some (.inl (h,J2 .i64 e 1,j,g.1,g.2.1,J9U g.2.2 (Int.toNat e) (true,n)))else some (.inr (g,true))
def Jdv(x1:List UInt8):Option (JwM):=(J4P (x1,8,4)).bind λg=>(J4P (x1,0,8)).bind λe=>Jc (Jo4) (x1,0,(0,0,Vector.replicate 16 (false,[])),g,e,Vector.replicate 16 (false,[]))
def JaS(x1:List UInt8):Option (J5d):=if neI (J0 x1) 256 then some ((0,0,Vector.replicate 16 (false,[])),2)else(Jc8 ()).bind λn=>if eqS x1 n then some ((0,0,Vector.replicate 16 (false,[])),7)else(J0Q x1 none (some 8)).bind λk=>(J0Q x1 (some 248) none).bind λo=>if neS k o then some ((0,0,Vector.replicate 16 (false,[])),27)else(J4P (x1,244,4)).bind λq=>(J0Q x1 none (some 244)).bind λj=>(Ja2 j).bind λh=>if neI q (cvI .i64 h)then some ((0,0,Vector.replicate 16 (false,[])),3)else(Jdv x1).bind λe=>(JaJ e.1).bind λg=>if Jr e.2=false then if neI g.2 0=false then if neS g.1 x1 then some ((0,0,Vector.replicate 16 (false,[])),4)else some (e.1,0)else some ((0,0,Vector.replicate 16 (false,[])),4)else some ((0,0,Vector.replicate 16 (false,[])),4)
def Jbw(x1:Int):Option (Jy):=some (x1,0,Vector.replicate 16 (false,[]))
def J2S(x1:J2A):Option (J5d):=(J8G x1.2).bind λg=>if Jr g then some ((0,0,Vector.replicate 16 (false,[])),1)else(JaS x1.1).bind λe=>if eqI e.2 7 then(Jbw x1.2).bind λh=>some (h,0)else if neI e.2 0 then some ((0,0,Vector.replicate 16 (false,[])),e.2)else if neI e.1.1 x1.2 then some ((0,0,Vector.replicate 16 (false,[])),6)else some (e.1,0)
def J6V(x1:Jdx):Option (Bool):=if geI x1.2 0 then some (ltI x1.2 (J0 x1.1))else some false
def J1W(x1:JHv):Option (J5d):=(J3P x1.1).bind λj=>if Jr j then some ((0,0,Vector.replicate 16 (false,[])),28)else(J6V (x1.1,x1.2.1)).bind λh=>if Jr h=false then if ltI x1.2.2.1 0 then some ((0,0,Vector.replicate 16 (false,[])),1)else(J2S (x1.2.2.2,x1.2.1)).bind λe=>(idx x1.1 x1.2.1).bind λg=>if neI e.2 0 then some ((0,0,Vector.replicate 16 (false,[])),e.2)else if gtI e.1.2.1 x1.2.2.1 then if gtI e.1.2.1 g.1 then some ((0,0,Vector.replicate 16 (false,[])),9)else if ltI e.1.2.1 g.1 then some ((0,0,Vector.replicate 16 (false,[])),8)else some (e.1,0)else if ltI e.1.2.1 g.1 then some ((0,0,Vector.replicate 16 (false,[])),8)else some (e.1,0)else some ((0,0,Vector.replicate 16 (false,[])),1)
def J2E(x1:JPG):Option (J5d):=(J3o x1.1).bind λh=>if Jr h then some ((0,0,Vector.replicate 16 (false,[])),15)else if ltI x1.2.1 0=false then if geI x1.2.1 x1.1.1 then some ((0,0,Vector.replicate 16 (false,[])),1)else if neI x1.2.2.2 0 then some ((0,0,Vector.replicate 16 (false,[])),x1.2.2.2)else(J5X (x1.1,x1.2.1)).bind λg=>(J1W (x1.1.2.2.2.2.2.2.1,x1.2.1,g,x1.2.2.1)).bind λe=>if neI e.2 0 then some ((0,0,Vector.replicate 16 (false,[])),e.2)else if gtI e.1.2.1 x1.1.2.2.1.2.2 then some ((0,0,Vector.replicate 16 (false,[])),9)else some (e.1,0)else some ((0,0,Vector.replicate 16 (false,[])),1)
def J3N(g:(JcP)->Option (JcP))(x1:JcP):Option (JcP):=if geI x1.2.2 (J0 x1.2.1)=false then if ltI x1.1 1 then some (0,x1.2)else(idx x1.2.1 x1.2.2).bind λh=>if gtI x1.1 256 then(g (256,x1.2.1,J2 .i64 x1.2.2 1)).bind λe=>(Jqg (J2 .i64 (J20 .i64 256 (cvI .i64 h)) e.1) x1.1).bind λj=>some (j,e.2)else(Jqg (cvI .i64 h) x1.1).bind λk=>some (k,x1.2.1,J2 .i64 x1.2.2 1)else some (0,x1.2)
def Jn:(JcP)->Option (JcP):=JiD J3N 100
def JcJ:JLa->Option ((JLa)⊕(JxU)):=fun(g,h,j,e)=>if ltI h g then(Jn (3,j)).bind λk=>(JN 1 e [cvI .u8 (J2 .i64 97 k.1)]).bind λn=>some (.inl (g,J2 .i64 h 1,k.2,n))else some (.inr (toStr e,j))
def JcO:JLa->Option ((JLa)⊕(JxU)):=fun(e,j,g,h)=>if ltI j e then(Jn (3,g)).bind λk=>(JN 1 h [cvI .u8 (J2 .i64 97 k.1)]).bind λn=>some (.inl (e,J2 .i64 j 1,k.2,n))else some (.inr (toStr h,g))
def J2P(x1:JB):Option (JxU):=(Jn (5,x1)).bind λh=>(Jn (6,h.2)).bind λg=>if eqI g.1 0 then(Jn (14,g.2)).bind λe=>(mkS 1 0 e.1 0).bind λk=>Jc (JcJ) (e.1,0,e.2,k)else(mkS 1 0 h.1 0).bind λj=>Jc (JcO) (h.1,0,g.2,j)
def J4X(x1:JB):Option (J1y×JB):=(Jn (3,x1)).bind λg=>if eqI g.1 0 then some ((false,[]),g.2)else(J2P g.2).bind λe=>(J0Q e.1 none (some (JbE (J0 e.1) 12))).bind λh=>some ((true,h),e.2)
def JcE:JLq->Option ((JLq)⊕(JP6)):=fun(g,h,k,e)=>if gtI g 0 then(Jn (16,h)).bind λj=>(J4X j.2).bind λn=>(inb 16 j.1).bind λ_=>(vat e.2.2 (Int.toNat j.1)).bind λ_=>some (.inl (JI .i64 g 1,n.2,k,e.1,e.2.1,J9U e.2.2 (Int.toNat j.1) n.1))else some (.inr (e,h))
def JcH:JLq->Option ((JLq)⊕(JP6)):=fun(g,j,k,e)=>if gtI g 0 then(Jn (16,j)).bind λh=>(J4X h.2).bind λn=>(inb 16 h.1).bind λ_=>(vat e.2.2 (Int.toNat h.1)).bind λ_=>some (.inl (JI .i64 g 1,n.2,k,e.1,e.2.1,J9U e.2.2 (Int.toNat h.1) n.1))else some (.inr (e,j))
def J6R(x1:JcP):Option (JP6):=(Jn (50,x1.2)).bind λh=>(Jn (10,h.2)).bind λg=>if eqI g.1 9 then(Jn (2,g.2)).bind λe=>if gtI (JI .i64 1099511627776 e.1) 0 then(Jn (6,e.2)).bind λk=>Jc (JcE) (k.1,k.2,(0,0,Vector.replicate 16 (false,[])),x1.1,JI .i64 1099511627776 e.1,Vector.replicate 16 (false,[]))else some ((x1.1,JI .i64 1099511627776 e.1,Vector.replicate 16 (false,[])),e.2)else if gtI h.1 0 then(Jn (6,g.2)).bind λj=>Jc (JcH) (j.1,j.2,(0,0,Vector.replicate 16 (false,[])),x1.1,h.1,Vector.replicate 16 (false,[]))else some ((x1.1,h.1,Vector.replicate 16 (false,[])),g.2)
def J0l(x1:JB):Option (JcP):=(Jn (10,x1)).bind λe=>if eqI e.1 0 then(Jn (3,e.2)).bind λg=>some (JI .i64 (-1) g.1,g.2)else if eqI e.1 1 then(Jn (16,e.2)).bind λh=>(idx [9223372036854775807,(-9223372036854775808),1099511627776,1099511627777,1073741824,1073741825,64,63,16,15,256,255,4294967296,65536,256,255] h.1).bind λk=>some (k,h.2)else(Jn (20,e.2)).bind λj=>some j
def J45(x1:JcP):Option (J3A×JB):=(Jn (12,x1.2)).bind λj=>(idx [1,1,2,2,2,3,4,5,6,7,2,4] j.1).bind λe=>if eqI e 1 then(Jn (x1.1,j.2)).bind λW=>(Jn (2,W.2)).bind λB=>if eqI e 2 then(J2P B.2).bind λV=>(J0Q V.1 none (some (JbE (J0 V.1) 12))).bind λY=>(Jn (40,V.2)).bind λU=>if eqI U.1 39 then(J0l U.2).bind λZ=>(J0l Z.2).bind λC=>some ((e,Z.1,C.1,Y),C.2)else some ((e,W.1,B.1,Y),U.2)else(Jn (40,B.2)).bind λz=>if eqI z.1 39 then(J0l z.2).bind λM=>(J0l M.2).bind λE=>some ((e,M.1,E.1,[]),E.2)else some ((e,W.1,B.1,[]),z.2)else if eqI e 2 then(Jn (x1.1,j.2)).bind λx=>(Jn (2,x.2)).bind λh=>if eqI e 2 then(J2P h.2).bind λy=>(J0Q y.1 none (some (JbE (J0 y.1) 12))).bind λH=>(Jn (40,y.2)).bind λv=>if eqI v.1 39 then(J0l v.2).bind λK=>(J0l K.2).bind λI=>some ((e,K.1,I.1,H),I.2)else some ((e,x.1,h.1,H),v.2)else(Jn (40,h.2)).bind λo=>if eqI o.1 39 then(J0l o.2).bind λQ=>(J0l Q.2).bind λG=>some ((e,Q.1,G.1,[]),G.2)else some ((e,x.1,h.1,[]),o.2)else if eqI e 3 then(Jn (x1.1,j.2)).bind λq=>(Jn (2,q.2)).bind λg=>if eqI e 2 then(J2P g.2).bind λr=>(J0Q r.1 none (some (JbE (J0 r.1) 12))).bind λP=>(Jn (40,r.2)).bind λA=>if eqI A.1 39 then(J0l A.2).bind λS=>(J0l S.2).bind λO=>some ((e,S.1,O.1,P),O.2)else some ((e,q.1,g.1,P),A.2)else(Jn (40,g.2)).bind λn=>if eqI n.1 39 then(J0l n.2).bind λD=>(J0l D.2).bind λL=>some ((e,D.1,L.1,[]),L.2)else some ((e,q.1,g.1,[]),n.2)else if eqI e 7 then(Jn (2,j.2)).bind λT=>(Jn (40,T.2)).bind λk=>if eqI k.1 39 then(J0l k.2).bind λF=>(J0l F.2).bind λR=>some ((e,F.1,R.1,[]),R.2)else some ((e,0,T.1,[]),k.2)else(Jn (40,j.2)).bind λw=>if eqI w.1 39 then(J0l w.2).bind λJ=>(J0l J.2).bind λN=>some ((e,J.1,N.1,[]),N.2)else some ((e,0,0,[]),w.2)
def J6W(x1:JL6):Option (J57×JB):=(Jn (16,x1.2.2.2)).bind λe=>if eqI e.1 0 then some ((1,0,0,0,0,0,0,0,[]),e.2)else if eqI e.1 1 then some ((1,0,0,0,0,0,0,0,[]),e.2)else if eqI e.1 2 then(Jn (x1.1,e.2)).bind λn=>some ((3,0,n.1,0,0,0,0,0,[]),n.2)else if eqI e.1 3 then some ((4,0,0,0,0,0,0,0,[]),e.2)else if eqI e.1 4 then some ((5,0,0,0,0,0,0,0,[]),e.2)else if eqI e.1 5 then if x1.2.2.1 then(Jn (4,e.2)).bind λr=>(Jn (90,r.2)).bind λv=>(Jn (J2 .i64 x1.1 1,v.2)).bind λk=>(Jn (257,k.2)).bind λj=>some ((6,0,JI .i64 k.1 1,J20 .i64 r.1 v.1,j.1,0,0,0,[]),j.2)else(Jn (x1.2.1,e.2)).bind λq=>(J45 (x1.1,q.2)).bind λo=>some ((2,J2 .i64 1 q.1,0,0,0,o.1),o.2)else if eqI e.1 6 then some ((7,0,0,0,0,0,0,0,[]),e.2)else(Jn (x1.2.1,e.2)).bind λg=>(J45 (x1.1,g.2)).bind λh=>some ((2,J2 .i64 1 g.1,0,0,0,h.1),h.2)
def J9J:JRJ->Option ((JRJ)⊕(JRK)):=fun(j,e,h,k,g)=>if gtI h 0 then(J6W (j,5,e,k)).bind λn=>(JN 80 g [n.1]).bind λo=>some (.inl (j,e,JI .i64 h 1,n.2,o))else some (.inr (g,k))
def J4B(x1:JL6):Option (JRK):=(Jn (J2 .i64 x1.2.1 1,x1.2.2.2)).bind λe=>Jc (J9J) (x1.1,x1.2.2.1,e.1,e.2,[(1,0,0,0,0,0,0,0,[]),(1,0,0,0,0,0,0,0,[])])
def Jgu:Int×Int×(List (List UInt8))->Option ((Int×Int×(List (List UInt8)))⊕(List (List UInt8))):=fun(g,h,e)=>if ltI h g then(mkS 1 256 256 0).bind λj=>(JN 16 e [toStr j]).bind λk=>some (.inl (g,J2 .i64 h 1,k))else some (.inr e)
def J9n(x1:Int):Option (List (List UInt8)):=Jc (Jgu) (x1,0,[])
def Jdy(x1:Int):Option (J6X):=if ltI x1 1=false then if gtI x1 64 then some (([],0,[],false,[]),1)else(J9n x1).bind λe=>some ((e,0,[],false,[]),0)else some (([],0,[],false,[]),1)
def JI4(x1:Unit):Option (J04):=some (1,[],0)
def Ja0(x1:Int):Option (J4A):=if ltI x1 1=false then if gtI x1 64 then some ((0,[],0),1)else some ((x1,[],0),0)else some ((0,[],0),1)
def Ja5(x1:Int):Option (Jdx):=if ltI x1 1=false then if gtI x1 64 then some ([],1)else(mkS 24 x1 x1 (0,0,0)).bind λe=>some (e,0)else some ([],1)
def J87(x1:JA):Option (J1l):=if ltI x1.1 1=false then if gtI x1.1 64=false then if ltI x1.2 1=false then if gtI x1.2 64 then some ((0,0,(0,[],0),(0,[],0),([],[]),[],[],[]),1)else(Ja0 x1.2).bind λg=>(Ja5 x1.1).bind λe=>some ((x1.1,1,(1,[],0),g.1,([],[]),[],e.1,[]),0)else some ((0,0,(0,[],0),(0,[],0),([],[]),[],[],[]),1)else some ((0,0,(0,[],0),(0,[],0),([],[]),[],[],[]),1)else some ((0,0,(0,[],0),(0,[],0),([],[]),[],[],[]),1)
def Jdz(x1:JA):Option (J42):=(J87 x1).bind λg=>if neI g.2 0 then some (((0,0,(0,[],0),(0,[],0),([],[]),[],[],[]),[],0,[],false,[]),g.2)else(Jdy x1.1).bind λe=>if neI e.2 0 then some (((0,0,(0,[],0),(0,[],0),([],[]),[],[],[]),[],0,[],false,[]),e.2)else some ((g.1,e.1),0)
def J5j(x1:JA):Option (Bool):=if geI x1.1 0 then some (ltI x1.1 x1.2)else some false
def J1V(x1:J1y):Option (Bool):=if leI (J0 x1.2) 12 then if x1.1=false then some (eqS x1.2 [])else some true else some false
def J64(x1:J1u):Option (Bool):=if geI x1.1 0 then if ltI x1.1 64 then if geI x1.2.1 0 then if ltI x1.2.1 16 then(J1V x1.2.2.1).bind λg=>if g then(J1V x1.2.2.2).bind λe=>some e else some false else some false else some false else some false else some false
def J66(x1:Js):Option (JrL):=if eqI x1.2.1 1 then(J64 x1.2.2.2.2.2.2.1).bind λg=>if eqI x1.2.1 2 then if g then if gtI x1.2.2.2.1 0 then if geI x1.2.2.2.2.2.1 1 then if leI x1.2.2.2.2.2.1 x1.2.2.2.1 then if geI x1.2.2.1 1 then some ((x1.1,x1.2.1,x1.2.2.1,x1.2.2.2.1,x1.2.2.2.2.1,x1.2.2.2.2.2.1,x1.2.2.2.2.2.2.1,[]),leI x1.2.2.1 1073741824)else some ((x1.1,x1.2.1,x1.2.2.1,x1.2.2.2.1,x1.2.2.2.2.1,x1.2.2.2.2.2.1,x1.2.2.2.2.2.2.1,[]),false)else some ((x1.1,x1.2.1,x1.2.2.1,x1.2.2.2.1,x1.2.2.2.2.1,x1.2.2.2.2.2.1,x1.2.2.2.2.2.2.1,[]),false)else some ((x1.1,x1.2.1,x1.2.2.1,x1.2.2.2.1,x1.2.2.2.2.1,x1.2.2.2.2.2.1,x1.2.2.2.2.2.2.1,[]),false)else some ((x1.1,x1.2.1,x1.2.2.1,x1.2.2.2.1,x1.2.2.2.2.1,x1.2.2.2.2.2.1,x1.2.2.2.2.2.2.1,[]),false)else some ((x1.1,x1.2.1,x1.2.2.1,x1.2.2.2.1,x1.2.2.2.2.1,x1.2.2.2.2.2.1,x1.2.2.2.2.2.2.1,[]),false)else if g then if geI x1.2.2.1 1 then some ((x1.1,x1.2.1,x1.2.2.1,x1.2.2.2.1,x1.2.2.2.2.1,0,x1.2.2.2.2.2.2.1,[]),leI x1.2.2.1 1073741824)else some ((x1.1,x1.2.1,x1.2.2.1,x1.2.2.2.1,x1.2.2.2.2.1,0,x1.2.2.2.2.2.2.1,[]),false)else some ((x1.1,x1.2.1,x1.2.2.1,x1.2.2.2.1,x1.2.2.2.2.1,0,x1.2.2.2.2.2.2.1,[]),false)else if eqI x1.2.1 2 then(J64 x1.2.2.2.2.2.2.1).bind λe=>if eqI x1.2.1 2 then if e then if gtI x1.2.2.2.1 0 then if geI x1.2.2.2.2.2.1 1 then if leI x1.2.2.2.2.2.1 x1.2.2.2.1 then if geI x1.2.2.1 1 then some ((x1.1,x1.2.1,x1.2.2.1,x1.2.2.2.1,x1.2.2.2.2.1,x1.2.2.2.2.2.1,x1.2.2.2.2.2.2.1,[]),leI x1.2.2.1 1073741824)else some ((x1.1,x1.2.1,x1.2.2.1,x1.2.2.2.1,x1.2.2.2.2.1,x1.2.2.2.2.2.1,x1.2.2.2.2.2.2.1,[]),false)else some ((x1.1,x1.2.1,x1.2.2.1,x1.2.2.2.1,x1.2.2.2.2.1,x1.2.2.2.2.2.1,x1.2.2.2.2.2.2.1,[]),false)else some ((x1.1,x1.2.1,x1.2.2.1,x1.2.2.2.1,x1.2.2.2.2.1,x1.2.2.2.2.2.1,x1.2.2.2.2.2.2.1,[]),false)else some ((x1.1,x1.2.1,x1.2.2.1,x1.2.2.2.1,x1.2.2.2.2.1,x1.2.2.2.2.2.1,x1.2.2.2.2.2.2.1,[]),false)else some ((x1.1,x1.2.1,x1.2.2.1,x1.2.2.2.1,x1.2.2.2.2.1,x1.2.2.2.2.2.1,x1.2.2.2.2.2.2.1,[]),false)else if e then if geI x1.2.2.1 1 then some ((x1.1,x1.2.1,x1.2.2.1,x1.2.2.2.1,x1.2.2.2.2.1,0,x1.2.2.2.2.2.2.1,[]),leI x1.2.2.1 1073741824)else some ((x1.1,x1.2.1,x1.2.2.1,x1.2.2.2.1,x1.2.2.2.2.1,0,x1.2.2.2.2.2.2.1,[]),false)else some ((x1.1,x1.2.1,x1.2.2.1,x1.2.2.2.1,x1.2.2.2.2.1,0,x1.2.2.2.2.2.2.1,[]),false)else if eqI x1.2.1 3 then if geI x1.2.2.1 1 then if leI x1.2.2.1 1073741824 then some ((x1.1,x1.2.1,x1.2.2.1,x1.2.2.2.1,0,0,(0,0,(false,[]),false,[]),[]),gtI x1.2.2.2.1 0)else some ((x1.1,x1.2.1,x1.2.2.1,x1.2.2.2.1,0,0,(0,0,(false,[]),false,[]),[]),false)else some ((x1.1,x1.2.1,x1.2.2.1,x1.2.2.2.1,0,0,(0,0,(false,[]),false,[]),[]),false)else if eqI x1.2.1 4 then if geI x1.2.2.1 1 then if leI x1.2.2.1 1073741824 then some ((x1.1,x1.2.1,x1.2.2.1,x1.2.2.2.1,0,0,(0,0,(false,[]),false,[]),[]),gtI x1.2.2.2.1 0)else some ((x1.1,x1.2.1,x1.2.2.1,x1.2.2.2.1,0,0,(0,0,(false,[]),false,[]),[]),false)else some ((x1.1,x1.2.1,x1.2.2.1,x1.2.2.2.1,0,0,(0,0,(false,[]),false,[]),[]),false)else if eqI x1.2.1 5 then if geI x1.2.2.1 1 then if leI x1.2.2.1 1073741824 then some ((x1.1,x1.2.1,x1.2.2.1,x1.2.2.2.1,0,0,(0,0,(false,[]),false,[]),[]),gtI x1.2.2.2.1 0)else some ((x1.1,x1.2.1,x1.2.2.1,x1.2.2.2.1,0,0,(0,0,(false,[]),false,[]),[]),false)else some ((x1.1,x1.2.1,x1.2.2.1,x1.2.2.2.1,0,0,(0,0,(false,[]),false,[]),[]),false)else if eqI x1.2.1 6 then some ((x1.1,x1.2.1,0,0,0,0,(0,0,(false,[]),false,[]),x1.2.2.2.2.2.2.2),leI (J0 x1.2.2.2.2.2.2.2) 8192)else if eqI x1.2.1 8 then some ((x1.1,x1.2.1,0,0,0,0,(0,0,(false,[]),false,[]),x1.2.2.2.2.2.2.2),leI (J0 x1.2.2.2.2.2.2.2) 8192)else if eqI x1.2.1 7 then if geI x1.2.2.2.2.2.2.1.1 0 then some ((x1.1,x1.2.1,0,0,0,x1.2.2.2.2.2.1,(x1.2.2.2.2.2.2.1.1,0,(false,[]),false,[]),[]),ltI x1.2.2.2.2.2.2.1.1 64)else some ((x1.1,x1.2.1,0,0,0,x1.2.2.2.2.2.1,(x1.2.2.2.2.2.2.1.1,0,(false,[]),false,[]),[]),false)else some ((x1.1,x1.2.1,0,0,0,0,(0,0,(false,[]),false,[]),[]),false)
def J0D(x1:Js):Option (Bool):=(J66 x1).bind λe=>if e.2 then if eqT Jh e.1 x1 then if geI x1.1 1 then if leI x1.1 1099511627776 then(J5j (x1.2.2.2.1,x1.1)).bind λg=>if g then(J5j (x1.2.2.2.2.1,x1.1)).bind λh=>if h then(J5j (x1.2.2.2.2.2.1,x1.1)).bind λj=>some j else some false else some false else some false else some false else some false else some false
def J2n(x1:J04):Option (Int):=some (JI .i64 (J2 .i64 x1.1 (J0 x1.2.1)) 1)
def Jc1(z3:Int×J04):Option ((Int×J04)⊕Bool):=if ltI z3.1 (J0 z3.2.2.1)then(idx z3.2.2.1 z3.1).bind λe=>if neI e.1 (J2 .i64 z3.2.1 z3.1)=false then(idx z3.2.2.1 z3.1).bind λg=>(J0D g).bind λh=>if Jr h then some (.inr false)else some (.inl (J2 .i64 z3.1 1,z3.2))else some (.inr false)else some (.inr true)
def J0f(x1:J04):Option (Bool):=if ltI x1.1 1=false then if gtI x1.1 1099511627776=false then if gtI (J0 x1.2.1) 4096=false then if ltI x1.2.2 (JI .i64 x1.1 1)=false then(J2n x1).bind λe=>if gtI x1.2.2 e then some false else Jc (Jc1) (0,x1)else some false else some false else some false else some false
def J38(x1:J8w):Option (J8w):=(J0f x1.1).bind λg=>if Jr g then some ((0,[],0),26)else(J2n x1.1).bind λe=>if gtI x1.2 e then some ((0,[],0),14)else some ((x1.1.1,x1.1.2.1,J4a x1.1.2.2 x1.2),0)
def J5C(x1:J04):Option (Int):=(J0f x1).bind λg=>if Jr g then some 0 else(J2n x1).bind λe=>some e
def Jz(x1:Int):Option (J0L):=some (5,0,0,(false,[]),x1)
def JhI(e:JhP):Option ((JhP)⊕Bool):=if ltI e.1 (J0 e.2.2.2.2.2.2)then(idx e.2.2.2.2.2.2 e.1).bind λk=>if ltI k 0=false then(idx e.2.2.2.2.2.2 e.1).bind λj=>if gtI j e.2.2.2.1=false then if gtI e.1 0 then(idx e.2.2.2.2.2.2 (JI .i64 e.1 1)).bind λg=>(idx e.2.2.2.2.2.2 e.1).bind λh=>if gtI g h then some (.inr false)else some (.inl (J2 .i64 e.1 1,e.2))else some (.inl (J2 .i64 e.1 1,e.2))else some (.inr false)else some (.inr false)else some (.inr true)
def Jhq(z2:JhP):Option ((JhP)⊕Bool):=if ltI z2.1 (J0 z2.2.2.2.2.2.1)then(idx z2.2.2.2.2.2.1 z2.1).bind λg=>if ltI g 1=false then(idx z2.2.2.2.2.2.1 z2.1).bind λh=>if gtI h z2.2.2.2.1=false then if gtI z2.1 0 then(idx z2.2.2.2.2.2.1 (JI .i64 z2.1 1)).bind λj=>(idx z2.2.2.2.2.2.1 z2.1).bind λe=>if geI j e then some (.inr false)else some (.inl (J2 .i64 z2.1 1,z2.2))else some (.inl (J2 .i64 z2.1 1,z2.2))else some (.inr false)else some (.inr false)else Option.map .inr (Jc (JhI) (0,z2.2))
def Jie(e:JhP):Option ((JhP)⊕Bool):=if ltI e.1 (J0 e.2.2.2.2.2.2)then(idx e.2.2.2.2.2.2 e.1).bind λj=>if ltI j 0=false then(idx e.2.2.2.2.2.2 e.1).bind λh=>if gtI h e.2.2.2.1=false then if gtI e.1 0 then(idx e.2.2.2.2.2.2 (JI .i64 e.1 1)).bind λk=>(idx e.2.2.2.2.2.2 e.1).bind λg=>if gtI k g then some (.inr false)else some (.inl (J2 .i64 e.1 1,e.2))else some (.inl (J2 .i64 e.1 1,e.2))else some (.inr false)else some (.inr false)else some (.inr true)
def Jiu(e:JhP):Option ((JhP)⊕Bool):=if ltI e.1 (J0 e.2.2.2.2.2.1)then(idx e.2.2.2.2.2.1 e.1).bind λk=>if ltI k 1=false then(idx e.2.2.2.2.2.1 e.1).bind λh=>if gtI h e.2.2.2.1=false then if gtI e.1 0 then(idx e.2.2.2.2.2.1 (JI .i64 e.1 1)).bind λg=>(idx e.2.2.2.2.2.1 e.1).bind λj=>if geI g j then some (.inr false)else some (.inl (J2 .i64 e.1 1,e.2))else some (.inl (J2 .i64 e.1 1,e.2))else some (.inr false)else some (.inr false)else Option.map .inr (Jc (Jie) (0,e.2))
def J2m(x1:Jq):Option (Bool):=if ltI x1.1 1=false then if gtI x1.1 1073741824=false then if ltI x1.2.1 1=false then if gtI x1.2.1 3=false then if ltI x1.2.2.1 0=false then if gtI x1.2.2.1 1099511627776=false then if gtI (J0 x1.2.2.2.2.1) 4096=false then if gtI (J0 x1.2.2.2.2.2) 8 then some false else if ltI x1.2.2.2.1 0=false then if gtI x1.2.2.2.1 x1.2.2.1=false then if neI x1.2.1 2 then if neI x1.2.2.2.1 0 then some false else Jc (Jhq) (0,x1)else Jc (Jiu) (0,x1)else some false else some false else some false else some false else some false else some false else some false else some false else some false
def Jby(z2:J2x):Option ((J2x)⊕Bool):=if ltI z2.2 (J0 z2.1)then(idx z2.1 z2.2).bind λg=>(J2m g).bind λh=>if Jr h=false then if gtI z2.2 0 then(idx z2.1 (JI .i64 z2.2 1)).bind λj=>(idx z2.1 z2.2).bind λe=>if geI j.1 e.1 then some (.inr false)else some (.inl (z2.1,J2 .i64 z2.2 1))else some (.inl (z2.1,J2 .i64 z2.2 1))else some (.inr false)else some (.inr true)
def J12(x1:List Jq):Option (Bool):=if gtI (J0 x1) 64 then some false else Jc (Jby) (x1,0)
def J22(z2:JyI):Option ((JyI)⊕Int):=if ltI z2.2.2 (J0 z2.1)then(idx z2.1 z2.2.2).bind λe=>if eqI e.1 z2.2.1 then some (.inr z2.2.2)else some (.inl (z2.1,z2.2.1,J2 .i64 z2.2.2 1))else some (.inr (-1))
def J1w(x1:J2x):Option (Int):=Jc (J22) (x1.1,x1.2,0)
def Jh7:JLV->Option ((JLV)⊕(J2x)):=fun(e,j,h,g)=>if ltI h (J0 e)then(idx e h).bind λy=>if ltI y.1 j then(idx e h).bind λv=>(JN 80 g [v]).bind λr=>some (.inl (e,j,J2 .i64 h 1,r))else Option.map .inr ((JN 80 g [(j,1,0,0,[],[])]).bind λx=>(J0Q e (some (J0 g)) none).bind λw=>(JN 80 x w).bind λk=>some (k,0))else Option.map .inr ((JN 80 g [(j,1,0,0,[],[])]).bind λo=>(J0Q e (some (J0 g)) none).bind λn=>(JN 80 o n).bind λq=>some (q,0))
def J7V(x1:J2x):Option (J2x):=(J12 x1.1).bind λg=>if Jr g then some ([],15)else if ltI x1.2 1=false then if gtI x1.2 1073741824 then some ([],1)else(J1w x1).bind λe=>if geI e 0 then some ([],25)else if eqI (J0 x1.1) 64 then some ([],21)else Jc (Jh7) (x1.1,x1.2,0,[])else some ([],1)
def JhQ:Int×Int×J6×T_api_Row->Option ((Int×Int×J6×T_api_Row)⊕(T_api_Row×Bool)):=fun(h,g,e,j)=>if ltI g (J0 e.2.2.2.2.2.2.2)then(idx e.2.2.2.2.2.2.2 g).bind λk=>if eqI k.1 h then(idx e.2.2.2.2.2.2.2 g).bind λn=>some (.inr (n,true))else some (.inl (h,J2 .i64 g 1,e,j))else some (.inr ((0,0,0),false))
def J4L(x1:J1l):Option (T_api_Row×Bool):=Jc (JhQ) (x1.2,0,x1.1,0,0,0)
def J2g(x1:Jef):Option (Bool):=if neI x1.1.1 x1.2.1 then if eqT JY x1.1.2.1 x1.2.2.1 then if eqI x1.1.2.2 2=false then some (eqI x1.2.2.2 2)else some true else some false else some false
def J60(x1:T_api_Grant):Option (Bool):=if geI x1.1 1 then if leI x1.1 1073741824 then if geI x1.2.1.1 0 then if ltI x1.2.1.1 64 then if geI x1.2.1.2 0 then if ltI x1.2.1.2 16 then if eqI x1.2.2 1=false then some (eqI x1.2.2 2)else some true else some false else some false else some false else some false else some false else some false
def J92(x1:Jef):Option (Bool):=if neI x1.1.2.1.1 x1.2.2.1.1 then some (ltI x1.1.2.1.1 x1.2.2.1.1)else if neI x1.1.2.1.2 x1.2.2.1.2 then some (ltI x1.1.2.1.2 x1.2.2.1.2)else some (ltI x1.1.1 x1.2.1)
def Jl3:Int×Int×JX×JA->Option ((Int×Int×JX×JA)⊕Int):=fun(h,g,e,j)=>if ltI g (J0 e.1)then(idx e.1 g).bind λk=>if eqI k.1 h then(idx e.1 g).bind λn=>if eqT JY n.2.1 j then(idx e.1 g).bind λo=>some (.inr o.2.2)else some (.inl (h,J2 .i64 g 1,e,j))else some (.inl (h,J2 .i64 g 1,e,j))else some (.inr 0)
def J33(x1:Js0):Option (Int):=Jc (Jl3) (x1.2.1,0,x1.1,x1.2.2)
def JhK:Jdg->Option ((Jdg)⊕((JgR)⊕Bool)):=fun(g,h,e)=>if geI h 0 then(idx e.1 h).bind λq=>(idx e.1 g).bind λj=>if eqT JY q.2.1 j.2.1 then(idx e.1 h).bind λk=>(idx e.1 g).bind λo=>(J2g (k,o)).bind λn=>if n then Option.map .inr (some (.inr false))else some (.inl (g,JI .i64 h 1,e))else some (.inr (.inl (J2 .i64 g 1,e)))else some (.inr (.inl (J2 .i64 g 1,e)))
def Jix:Jdg->Option ((Jdg)⊕((JgR)⊕Bool)):=fun(g,h,e)=>if geI h 0 then(idx e.1 h).bind λk=>(idx e.1 g).bind λn=>if eqT JY k.2.1 n.2.1 then(idx e.1 h).bind λo=>(idx e.1 g).bind λq=>(J2g (o,q)).bind λj=>if j then Option.map .inr (some (.inr false))else some (.inl (g,JI .i64 h 1,e))else some (.inr (.inl (J2 .i64 g 1,e)))else some (.inr (.inl (J2 .i64 g 1,e)))
def JhX:JMA->Option ((JMA)⊕((JgR)⊕Bool)):=fun(e,g,h,j)=>if ltI g e then(idx h.2 g).bind λk=>if eqI k.1 j.1 then Option.map .inr (some (.inr false))else some (.inl (e,J2 .i64 g 1,h,j))else some (.inr (.inl (J2 .i64 e 1,h)))
def Ji7(z20:JgR):Option ((JgR)⊕Bool):=if ltI z20.1 (J0 z20.2.2)then(idx z20.2.2 z20.1).bind λe=>(J60 e).bind λh=>if Jr h=false then(J33 (z20.2,e.1,e.2.1)).bind λg=>if geI g e.2.2 then some (.inr false)else Jc (JhX) (z20.1,0,z20.2,e)else some (.inr false)else some (.inr true)
def Jic(z2:JgR):Option ((JgR)⊕Bool):=if ltI z2.1 (J0 z2.2.1)then(idx z2.2.1 z2.1).bind λh=>(J60 h).bind λj=>if Jr j=false then if gtI z2.1 0 then(idx z2.2.1 (JI .i64 z2.1 1)).bind λk=>(idx z2.2.1 z2.1).bind λg=>(J92 (k,g)).bind λe=>if Jr e then some (.inr false)else Jc (JhK) (z2.1,JI .i64 z2.1 1,z2.2)else Jc (Jix) (z2.1,JI .i64 z2.1 1,z2.2)else some (.inr false)else Option.map .inr (Jc (Ji7) (0,z2.2))
def J1s(x1:JX):Option (Bool):=if gtI (J2 .i64 (J0 x1.1) (J0 x1.2)) 1024 then some false else Jc (Jic) (0,x1)
def JbW(z2:Jwy):Option ((Jwy)⊕Bool):=if ltI z2.1 16 then(inb 16 z2.1).bind λ_=>(vat z2.2.2.2 (Int.toNat z2.1)).bind λg=>(J1V g).bind λh=>if Jr h=false then if eqI z2.2.2.1 0 then(inb 16 z2.1).bind λ_=>(vat z2.2.2.2 (Int.toNat z2.1)).bind λe=>if e.1 then some (.inr false)else some (.inl (J2 .i64 z2.1 1,z2.2))else some (.inl (J2 .i64 z2.1 1,z2.2))else some (.inr false)else some (.inr true)
def J1X(x1:Jy):Option (Bool):=Jc (JbW) (0,x1)
def J1K(x1:Jy):Option (Bool):=if geI x1.1 0 then if ltI x1.1 64 then if geI x1.2.1 0 then some (leI x1.2.1 1099511627776)else some false else some false else some false
def J1D(x1:Jy):Option (Bool):=(J1K x1).bind λg=>if g then(J1X x1).bind λe=>some e else some false
def J09:Jqf->Option ((Jqf)⊕((TQ115)⊕Bool)):=fun(k,e,g,h,j)=>if ltI g e then(idx h.2.1 g).bind λn=>if eqI n.1.1 j.1.1 then Option.map .inr (some (.inr false))else some (.inl (k,e,J2 .i64 g 1,h,j))else some (.inr (.inl (k,J2 .i64 e 1,h)))
def JhS:Jqf->Option ((Jqf)⊕((TQ115)⊕Bool)):=fun(k,e,h,g,j)=>if ltI h e then(idx g.2.1 h).bind λn=>if eqI n.1.1 j.1.1 then Option.map .inr (some (.inr false))else some (.inl (k,e,J2 .i64 h 1,g,j))else some (.inr (.inl (k,J2 .i64 e 1,g)))
def Jhw:Jqf->Option ((Jqf)⊕((TQ115)⊕Bool)):=fun(j,h,g,e,k)=>if ltI g h then(idx e.2.1 g).bind λn=>if eqI n.1.1 k.1.1 then Option.map .inr (some (.inr false))else some (.inl (j,h,J2 .i64 g 1,e,k))else some (.inr (.inl (j,J2 .i64 h 1,e)))
def Jh6:Jqf->Option ((Jqf)⊕((TQ115)⊕Bool)):=fun(k,h,e,g,j)=>if ltI e h then(idx g.2.1 e).bind λn=>if eqI n.1.1 j.1.1 then Option.map .inr (some (.inr false))else some (.inl (k,h,J2 .i64 e 1,g,j))else some (.inr (.inl (k,J2 .i64 h 1,g)))
def J6e:TQ115->Option ((TQ115)⊕Bool):=fun(j,g,h)=>if ltI g j then(idx h.2.1 g).bind λe=>(J1D e.1).bind λk=>if Jr k=false then if e.2.1 then if ltI e.2.2.1 1=false then if gtI e.2.2.1 e.1.2.1=false then if Jr e.2.1 then if neI e.2.2.1 0 then some (.inr false)else Jc (J09) (j,g,0,h,e)else Jc (JhS) (j,g,0,h,e)else some (.inr false)else some (.inr false)else if Jr e.2.1 then if neI e.2.2.1 0 then some (.inr false)else Jc (Jhw) (j,g,0,h,e)else Jc (Jh6) (j,g,0,h,e)else some (.inr false)else some (.inr true)
def J0g(x1:J00):Option (Bool):=if ltI x1.1 1=false then if gtI x1.1 64=false then if gtI (J0 x1.2.1) x1.1=false then if ltI x1.2.2 0=false then if gtI x1.2.2 (J4a 0 (JI .i64 (J0 x1.2.1) 1))then some false else Jc (J6e) (J0 x1.2.1,0,x1)else some false else some false else some false else some false
def J8g(x1:Int):Option (Bool):=if geI x1 0 then some (leI x1 1099511627776)else some false
def JgM(z2:JgY):Option ((JgY)⊕Bool):=if ltI z2.1 (J0 z2.2)then(idx z2.2 z2.1).bind λe=>(J8g e.1).bind λh=>if Jr h=false then(J8g e.2.1).bind λj=>if Jr j=false then(J8g e.2.2).bind λg=>if Jr g=false then if eqI e.2.1 0 then if neI e.2.2 0 then some (.inr false)else some (.inl (J2 .i64 z2.1 1,z2.2))else some (.inl (J2 .i64 z2.1 1,z2.2))else some (.inr false)else some (.inr false)else some (.inr false)else some (.inr true)
def J1H(x1:List T_api_Row):Option (Bool):=if ltI (J0 x1) 1=false then if gtI (J0 x1) 64 then some false else Jc (JgM) (0,x1)else some false
def J7K(z2:JMn):Option ((JMn)⊕Bool):=if ltI z2.2.2 (J0 z2.1)then(idx z2.1 z2.2.2).bind λe=>if ltI e.1 0=false then if geI e.1 z2.2.1=false then if ltI e.2.1 1=false then if gtI e.2.1 e.2.2=false then if gtI e.2.2 1099511627776=false then if gtI z2.2.2 0 then(idx z2.1 (JI .i64 z2.2.2 1)).bind λg=>if geI g.1 e.1 then some (.inr false)else some (.inl (z2.1,z2.2.1,J2 .i64 z2.2.2 1))else some (.inl (z2.1,z2.2.1,J2 .i64 z2.2.2 1))else some (.inr false)else some (.inr false)else some (.inr false)else some (.inr false)else some (.inr false)else some (.inr true)
def J1N(x1:Jdx):Option (Bool):=Jc (J7K) (x1.1,x1.2,0)
def J4S(x1:J6):Option (Bool):=if geI x1.1 1 then if leI x1.1 64 then if geI x1.2.1 1 then if leI x1.2.1 1073741825 then(J0f x1.2.2.1).bind λj=>if j then(J0g x1.2.2.2.1).bind λh=>if h then(J1s x1.2.2.2.2.1).bind λk=>if k then(J12 x1.2.2.2.2.2.1).bind λn=>if n then(J1H x1.2.2.2.2.2.2.1).bind λg=>if g then if eqI (J0 x1.2.2.2.2.2.2.1) x1.1 then(J1N (x1.2.2.2.2.2.2.2,x1.1)).bind λe=>some e else some false else some false else some false else some false else some false else some false else some false else some false else some false else some false
def JgS(e:J5b):Option ((J5b)⊕Bool):=if ltI e.1 (J0 e.2.2.2.2.2.1.2)then(idx e.2.2.2.2.2.1.2 e.1).bind λg=>if geI g.2.1.1 e.2.1 then some (.inr false)else some (.inl (J2 .i64 e.1 1,e.2))else some (.inr true)
def Jhv(e:J5b):Option ((J5b)⊕Bool):=if ltI e.1 (J0 e.2.2.2.2.2.1.1)then(idx e.2.2.2.2.2.1.1 e.1).bind λg=>if geI g.2.1.1 e.2.1 then some (.inr false)else some (.inl (J2 .i64 e.1 1,e.2))else Option.map .inr (Jc (JgS) (0,e.2))
def Jid(z5:J5b):Option ((J5b)⊕Bool):=if ltI z5.1 (J0 z5.2.2.2.2.1.2.1)then(idx z5.2.2.2.2.1.2.1 z5.1).bind λe=>if geI e.1.1 z5.2.1 then some (.inr false)else(J4L (z5.2,e.1.1)).bind λg=>if g.2 then some (.inr false)else some (.inl (J2 .i64 z5.1 1,z5.2))else Option.map .inr (Jc (Jhv) (0,z5.2))
def JhM(z3:J5b):Option ((J5b)⊕Bool):=if ltI z3.1 (J0 z3.2.2.2.2.2.2.1)then(idx z3.2.2.2.2.2.2.1 z3.1).bind λe=>if geI e.1 z3.2.2.1 then some (.inr false)else some (.inl (J2 .i64 z3.1 1,z3.2))else Option.map .inr (Jc (Jid) (0,z3.2))
def JM(x1:J6):Option (Bool):=(J4S x1).bind λe=>if Jr e then some false else Jc (JhM) (0,x1)
def JaH(x1:J6):Option (Jg1):=(JM x1).bind λg=>if Jr g then some ((0,0,(0,[],0),(0,[],0),([],[]),[],[],[]),0,15)else if gtI x1.2.1 1073741824 then some ((0,0,(0,[],0),(0,[],0),([],[]),[],[],[]),0,21)else(J7V (x1.2.2.2.2.2.1,x1.2.1)).bind λe=>if neI e.2 0 then some ((0,0,(0,[],0),(0,[],0),([],[]),[],[],[]),0,e.2)else some ((x1.1,J2 .i64 x1.2.1 1,x1.2.2.1,x1.2.2.2.1,x1.2.2.2.2.1,e.1,x1.2.2.2.2.2.2),JI .i64 (J2 .i64 x1.2.1 1) 1,0)
def Jan(x1:Jx):Option (Jv3):=(JaH x1.1).bind λe=>if neI e.2.2 0 then some (((0,0,(0,[],0),(0,[],0),([],[]),[],[],[]),[],0,[],false,[]),0,e.2.2)else some ((e.1,x1.2),e.2.1,0)
def J07(x1:Js):Option (Bool):=if eqI x1.2.1 1=false then some (eqI x1.2.1 2)else some true
def J1p(x1:J04×Js):Option (Jwh):=(J0f x1.1).bind λk=>if Jr k then some ((0,[],0),0,26)else if eqI (J0 x1.1.2.1) 4096=false then(J2n x1.1).bind λj=>if eqI j 1099511627776 then some ((0,[],0),0,21)else(J2n x1.1).bind λe=>(J0D (J2 .i64 e 1,x1.2.2)).bind λn=>if Jr n then some ((0,[],0),0,12)else(J3g 128 x1.1.2.1).bind λh=>(JN 128 h [(J2 .i64 e 1,x1.2.2)]).bind λg=>some ((x1.1.1,g,x1.1.2.2),J2 .i64 e 1,0)else some ((0,[],0),0,21)
def J0N(x1:J8w):Option (JrU):=(J0f x1.1).bind λg=>if Jr g then some ((0,0,0,0,0,0,(0,0,(false,[]),false,[]),[]),26)else if ltI x1.2 x1.1.1=false then(J2n x1.1).bind λe=>if gtI x1.2 e then some ((0,0,0,0,0,0,(0,0,(false,[]),false,[]),[]),14)else(idx x1.1.2.1 (JI .i64 x1.2 x1.1.1)).bind λh=>some (h,0)else some ((0,0,0,0,0,0,(0,0,(false,[]),false,[]),[]),14)
def Jdf(x1:(List T_api_Row)×Int×T_api_Row):Option (List T_api_Row):=(J3g 24 x1.1).bind λe=>(inb (List.length e) x1.2.1).bind λ_=>(lat e (Int.toNat x1.2.1)).bind λ_=>some (J0w e (Int.toNat x1.2.1) x1.2.2)
def J31(x1:JKu):Option (Jdx):=(J1H x1.1).bind λh=>if Jr h then some ([],28)else(J0D x1.2).bind λg=>if Jr g then some ([],12)else if neI x1.2.2.1 7 then some (x1.1,0)else if geI x1.2.2.2.2.2.2.2.1.1 (J0 x1.1)then some ([],1)else(idx x1.1 x1.2.2.2.2.2.2.2.1.1).bind λe=>(Jdf (x1.1,x1.2.2.2.2.2.2.2.1.1,J4a e.1 x1.2.2.2.2.2.2.1,e.2)).bind λj=>some (j,0)
def J0R(x1:J2x):Option (Int):=(J1w x1).bind λe=>some e
def Jgc:JLV->Option ((JLV)⊕(List Jq)):=fun(g,j,e,h)=>if ltI e (J0 g)then(idx g e).bind λk=>if neI k.1 j then(idx g e).bind λn=>(JN 80 h [n]).bind λo=>some (.inl (g,j,J2 .i64 e 1,o))else some (.inl (g,j,J2 .i64 e 1,h))else some (.inr h)
def J5k(x1:J2x):Option (List Jq):=Jc (Jgc) (x1.1,x1.2,0,[])
def J2Z(x1:(List Jq)×Int×Jq):Option (List Jq):=(J3g 80 x1.1).bind λe=>(inb (List.length e) x1.2.1).bind λ_=>(lat e (Int.toNat x1.2.1)).bind λ_=>some (J0w e (Int.toNat x1.2.1) x1.2.2)
def J2o(x1:Jq):Option (Jq):=if eqI x1.2.1 2 then if eqI (J0 x1.2.2.2.2.1) 0=false then(idx x1.2.2.2.2.1 (JI .i64 (J0 x1.2.2.2.2.1) 1)).bind λe=>if leI e x1.2.2.2.1 then some (x1.1,1,x1.2.2.1,0,x1.2.2.2.2)else some x1 else some (x1.1,1,x1.2.2.1,0,x1.2.2.2.2)else some x1
def JkR:JSD->Option ((JSD)⊕(J2x)):=fun(j,n,g,k,e,h)=>if ltI g (J0 e.2.2.2.2.1)then(idx e.2.2.2.2.1 g).bind λv=>if neI v k.2.2.2.2.2.1 then(idx e.2.2.2.2.1 g).bind λr=>(JN 8 h [r]).bind λw=>some (.inl (j,n,J2 .i64 g 1,k,e,w))else some (.inl (j,n,J2 .i64 g 1,k,e,h))else Option.map .inr (if eqI (J0 h) (J0 e.2.2.2.2.1)then some ([],13)else(J2o (e.1,e.2.1,e.2.2.1,e.2.2.2.1,h,e.2.2.2.2.2)).bind λq=>(J2Z (j,n,q)).bind λo=>some (o,0))
def J0G(x1:(List Jq)×Js):Option (J2x):=(J12 x1.1).bind λr=>if Jr r then some ([],15)else(J0D x1.2).bind λq=>if Jr q then some ([],12)else if eqI x1.2.2.2.1 0 then some (x1.1,0)else(J1w (x1.1,x1.2.2.2.1)).bind λg=>if ltI g 0 then some ([],16)else(idx x1.1 g).bind λe=>if neI x1.2.2.2.2.1 e.2.2.1 then some ([],13)else if eqI x1.2.2.1 1 then(J3g 8 e.2.2.2.2.1).bind λo=>(JN 8 o [x1.2.1]).bind λn=>(J2o (e.1,e.2.1,x1.2.1,e.2.2.2.1,n,e.2.2.2.2.2)).bind λw=>(J2Z (x1.1,g,w)).bind λv=>some (v,0)else if eqI x1.2.2.1 2 then Jc (JkR) (x1.1,g,0,x1.2,(e.1,e.2.1,x1.2.1,e.2.2.2),[])else if eqI x1.2.2.1 4 then(J2o (e.1,3,x1.2.1,0,e.2.2.2.2.1,[])).bind λh=>(J2Z (x1.1,g,h)).bind λj=>some (j,0)else(J5k (x1.1,x1.2.2.2.1)).bind λk=>some (k,0)
def J9g:TQ115->Option ((TQ115)⊕Int):=fun(h,e,g)=>if ltI e (J0 g.2.1)then(idx g.2.1 e).bind λj=>if eqI j.1.1 h then some (.inr e)else some (.inl (h,J2 .i64 e 1,g))else some (.inr (-1))
def J1M(x1:J4A):Option (Int):=Jc (J9g) (x1.2,0,x1.1)
def J1v(x1:J4A):Option (Int):=(J0g x1.1).bind λg=>if Jr g then some (-1)else(J1M x1).bind λe=>some e
def J32(x1:J4A):Option (JwM):=(J1v x1).bind λe=>if ltI e 0 then some ((0,0,Vector.replicate 16 (false,[])),false)else(idx x1.1.2.1 e).bind λg=>some (g.1,true)
def J4q(x1:J1l):Option (Int):=(JM x1.1).bind λh=>if Jr h=false then if ltI x1.2 0=false then if geI x1.2 x1.1.1 then some 0 else(J32 (x1.1.2.2.2.1,x1.2)).bind λe=>if e.2 then some e.1.2.1 else(J4L x1).bind λg=>if g.2 then some g.1.2.2 else(idx x1.1.2.2.2.2.2.2.1 x1.2).bind λj=>some j.1 else some 0 else some 0
def J1m(x1:Jza):Option (Jg1):=(JM x1.1).bind λI=>if Jr I then some ((0,0,(0,[],0),(0,[],0),([],[]),[],[],[]),0,15)else if gtI x1.2.2.2.1 0 then(J0R (x1.1.2.2.2.2.2.1,x1.2.2.2.1)).bind λC=>if ltI C 0 then some ((0,0,(0,[],0),(0,[],0),([],[]),[],[],[]),0,16)else(idx x1.1.2.2.2.2.2.1 C).bind λB=>(J07 (x1.2.1,x1.2.2.1,x1.2.2.2.1,B.2.2.1,0,x1.2.2.2.2.2.2)).bind λG=>if G then(J4q (x1.1,x1.2.2.2.2.2.2.2.1.1)).bind λH=>(J1p (x1.1.2.2.1,x1.2.1,x1.2.2.1,x1.2.2.2.1,B.2.2.1,H,x1.2.2.2.2.2.2)).bind λj=>if neI j.2.2 0 then some ((0,0,(0,[],0),(0,[],0),([],[]),[],[],[]),0,j.2.2)else(J0N (j.1,j.2.1)).bind λE=>(J0G (x1.1.2.2.2.2.2.1,E.1)).bind λA=>if neI A.2 0 then some ((0,0,(0,[],0),(0,[],0),([],[]),[],[],[]),0,A.2)else(J31 (x1.1.2.2.2.2.2.2.1,E.1)).bind λk=>if neI k.2 0 then some ((0,0,(0,[],0),(0,[],0),([],[]),[],[],[]),0,k.2)else some ((x1.1.1,x1.1.2.1,j.1,x1.1.2.2.2.1,x1.1.2.2.2.2.1,A.1,k.1,x1.1.2.2.2.2.2.2.2),j.2.1,0)else(J1p (x1.1.2.2.1,x1.2.1,x1.2.2.1,x1.2.2.2.1,B.2.2.1,0,x1.2.2.2.2.2.2)).bind λh=>if neI h.2.2 0 then some ((0,0,(0,[],0),(0,[],0),([],[]),[],[],[]),0,h.2.2)else(J0N (h.1,h.2.1)).bind λy=>(J0G (x1.1.2.2.2.2.2.1,y.1)).bind λn=>if neI n.2 0 then some ((0,0,(0,[],0),(0,[],0),([],[]),[],[],[]),0,n.2)else(J31 (x1.1.2.2.2.2.2.2.1,y.1)).bind λw=>if neI w.2 0 then some ((0,0,(0,[],0),(0,[],0),([],[]),[],[],[]),0,w.2)else some ((x1.1.1,x1.1.2.1,h.1,x1.1.2.2.2.1,x1.1.2.2.2.2.1,n.1,w.1,x1.1.2.2.2.2.2.2.2),h.2.1,0)else(J07 (x1.2.1,x1.2.2.1,x1.2.2.2.1,0,0,x1.2.2.2.2.2.2)).bind λD=>if D then(J4q (x1.1,x1.2.2.2.2.2.2.2.1.1)).bind λF=>(J1p (x1.1.2.2.1,x1.2.1,x1.2.2.1,x1.2.2.2.1,0,F,x1.2.2.2.2.2.2)).bind λg=>if neI g.2.2 0 then some ((0,0,(0,[],0),(0,[],0),([],[]),[],[],[]),0,g.2.2)else(J0N (g.1,g.2.1)).bind λx=>(J0G (x1.1.2.2.2.2.2.1,x.1)).bind λv=>if neI v.2 0 then some ((0,0,(0,[],0),(0,[],0),([],[]),[],[],[]),0,v.2)else(J31 (x1.1.2.2.2.2.2.2.1,x.1)).bind λr=>if neI r.2 0 then some ((0,0,(0,[],0),(0,[],0),([],[]),[],[],[]),0,r.2)else some ((x1.1.1,x1.1.2.1,g.1,x1.1.2.2.2.1,x1.1.2.2.2.2.1,v.1,r.1,x1.1.2.2.2.2.2.2.2),g.2.1,0)else(J1p (x1.1.2.2.1,x1.2.1,x1.2.2.1,x1.2.2.2.1,0,0,x1.2.2.2.2.2.2)).bind λe=>if neI e.2.2 0 then some ((0,0,(0,[],0),(0,[],0),([],[]),[],[],[]),0,e.2.2)else(J0N (e.1,e.2.1)).bind λz=>(J0G (x1.1.2.2.2.2.2.1,z.1)).bind λq=>if neI q.2 0 then some ((0,0,(0,[],0),(0,[],0),([],[]),[],[],[]),0,q.2)else(J31 (x1.1.2.2.2.2.2.2.1,z.1)).bind λo=>if neI o.2 0 then some ((0,0,(0,[],0),(0,[],0),([],[]),[],[],[]),0,o.2)else some ((x1.1.1,x1.1.2.1,e.1,x1.1.2.2.2.1,x1.1.2.2.2.2.1,q.1,o.1,x1.1.2.2.2.2.2.2.2),e.2.1,0)
def Jmt(z2:(List UInt8)×T_api_Row):Option (((List UInt8)×T_api_Row)⊕(List UInt8)):=if ltI z2.2.2.2 z2.2.2.1 then(JbG .u64 (cvI .u64 z2.2.1) (cvI .u64 (J20 .i64 8 z2.2.2.2))).bind λe=>(J3Y z2.1 (toStr [cvI .u8 e])).bind λg=>some (.inl (g,z2.2.1,z2.2.2.1,J2 .i64 z2.2.2.2 1))else some (.inr z2.1)
def JR(x1:JZ):Option (List UInt8):=if ltI x1.2.2 1=false then if gtI x1.2.2 8 then some x1.1 else Jc (Jmt) (x1.1,x1.2.1,x1.2.2,0)else some x1.1
def Jfu:(List UInt8)×Int×(List T_api_Row)->Option (((List UInt8)×Int×(List T_api_Row))⊕(J2A)):=fun(h,g,e)=>if ltI g (J0 e)then(idx e g).bind λr=>(JR (h,r.1,8)).bind λn=>(idx e g).bind λk=>(JR (n,k.2.1,8)).bind λq=>(idx e g).bind λo=>(JR (q,o.2.2,8)).bind λj=>some (.inl (j,J2 .i64 g 1,e))else some (.inr (h,0))
def J9G(x1:List T_api_Row):Option (J2A):=(J1H x1).bind λg=>if Jr g then some ([],28)else(JR ([],J0 x1,2)).bind λe=>Jc (Jfu) (e,0,x1)
def Jei:(List UInt8)×(List Int)×Int->Option (((List UInt8)×(List Int)×Int)⊕(List UInt8)):=fun(h,g,e)=>if ltI e (J0 g)then(idx g e).bind λj=>(JR (h,j,8)).bind λk=>some (.inl (k,g,J2 .i64 e 1))else some (.inr h)
def J6n(x1:(List UInt8)×(List Int)):Option (List UInt8):=Jc (Jei) (x1.1,x1.2,0)
def Jg7:(List Jq)×(List UInt8)×Int->Option (((List Jq)×(List UInt8)×Int)⊕(J2A)):=fun(g,j,h)=>if ltI h (J0 g)then(idx g h).bind λe=>(JR (j,e.1,4)).bind λv=>(JR (v,e.2.1,1)).bind λr=>(JR (r,e.2.2.1,8)).bind λx=>(JR (x,e.2.2.2.1,8)).bind λw=>(JR (w,J0 e.2.2.2.2.1,2)).bind λk=>(J6n (k,e.2.2.2.2.1)).bind λo=>(JR (o,J0 e.2.2.2.2.2,1)).bind λn=>(J6n (n,e.2.2.2.2.2)).bind λq=>some (.inl (g,q,J2 .i64 h 1))else some (.inr (j,0))
def J9j(x1:List Jq):Option (J2A):=(J12 x1).bind λg=>if Jr g then some ([],15)else(JR ([],J0 x1,2)).bind λe=>Jc (Jg7) (x1,e,0)
def Jhz(z5:Int×J18):Option ((Int×J18)⊕Bool):=if ltI z5.1 (J0 z5.2.2.2.1)then(idx z5.2.2.2.1 z5.1).bind λe=>if geI e.1 z5.2.2.1 then some (.inr false)else some (.inl (J2 .i64 z5.1 1,z5.2))else some (.inr true)
def J7Z(x1:J18):Option (Bool):=if ltI x1.1 1=false then if gtI x1.1 64=false then if ltI x1.2.1 1=false then if gtI x1.2.1 1073741825=false then(J12 x1.2.2.1).bind λg=>if Jr g=false then(J1N (x1.2.2.2.1,x1.1)).bind λe=>if Jr e=false then(J1H x1.2.2.2.2).bind λh=>if Jr h=false then if neI (J0 x1.2.2.2.2) x1.1 then some false else Jc (Jhz) (0,x1)else some false else some false else some false else some false else some false else some false else some false
def JfM:(List UInt8)×Int×J18->Option (((List UInt8)×Int×J18)⊕(J2A)):=fun(h,g,e)=>if ltI g (J0 e.2.2.2.1)then(idx e.2.2.2.1 g).bind λk=>(JR (h,k.1,1)).bind λv=>(idx e.2.2.2.1 g).bind λr=>(JR (v,r.2.1,8)).bind λw=>(idx e.2.2.2.1 g).bind λn=>(JR (w,n.2.2,8)).bind λj=>some (.inl (j,J2 .i64 g 1,e))else Option.map .inr ((J9G e.2.2.2.2).bind λo=>(J3Y h o.1).bind λq=>some (q,0))
def J9c(x1:J18):Option (J2A):=(J7Z x1).bind λj=>if Jr j then some ([],24)else(J9j x1.2.2.1).bind λe=>(JR ([],x1.1,2)).bind λn=>(JR (n,x1.2.1,4)).bind λo=>(JR (o,J0 e.1,4)).bind λh=>(J3Y h e.1).bind λg=>(JR (g,J0 x1.2.2.2.1,1)).bind λk=>Jc (JfM) (k,0,x1)
def Jhs:Int×J00×(List T_api_Row)->Option ((Int×J00×(List T_api_Row))⊕(List T_api_Row)):=fun(g,e,h)=>if ltI g 64 then(J1M (e,g)).bind λj=>if geI j 0 then(idx e.2.1 j).bind λq=>if q.2.1 then(idx e.2.1 j).bind λn=>(idx e.2.1 j).bind λk=>(JN 24 h [(g,n.2.2.1,k.1.2.1)]).bind λo=>some (.inl (J2 .i64 g 1,e,o))else some (.inl (J2 .i64 g 1,e,h))else some (.inl (J2 .i64 g 1,e,h))else some (.inr h)
def J83(x1:J00):Option (List T_api_Row):=(J0g x1).bind λe=>if Jr e then some []else Jc (Jhs) (0,x1,[])
def Jqy:TQ8->Option ((TQ8)⊕((JMd)⊕(Jsd))):=fun(o,x,B,h,y,A,z,v,w,r,g,q,j,e,k,n)=>if ltI h B then(idx x h).bind λC=>if eqI C.1 o then(JN 24 g [C]).bind λD=>some (.inl (o,x,B,J2 .i64 h 1,y,A,z,v,w,r,D,q,j,e,k,n))else some (.inl (o,x,B,J2 .i64 h 1,y,A,z,v,w,r,g,q,j,e,k,n))else some (.inr (.inl (J2 .i64 o 1,y,A,z,v,w,r,g,q,j,e,k,n)))
def JpQ:TQ8->Option ((TQ8)⊕((JMd)⊕(Jsd))):=fun(g,x,r,e,A,y,w,z,B,v,j,h,q,k,o,n)=>if ltI e r then(idx x e).bind λC=>if eqI C.1 g then(JN 24 j [C]).bind λD=>some (.inl (g,x,r,J2 .i64 e 1,A,y,w,z,B,v,D,h,q,k,o,n))else some (.inl (g,x,r,J2 .i64 e 1,A,y,w,z,B,v,j,h,q,k,o,n))else some (.inr (.inl (J2 .i64 g 1,A,y,w,z,B,v,j,h,q,k,o,n)))
def Jpu:JMd->Option ((JMd)⊕(Jsd)):=fun(h,e,w,y,r,q,v,n,x,o,g,k,j)=>if ltI h e.1 then(J4L (e,h)).bind λB=>if B.2 then(JN 24 n [B.1]).bind λC=>(J83 e.2.2.2.1).bind λA=>Jc (Jqy) (h,A,J0 A,0,e,w,y,r,q,v,C,x,o,g,k,j)else(J83 e.2.2.2.1).bind λz=>Jc (JpQ) (h,z,J0 z,0,e,w,y,r,q,v,n,x,o,g,k,j)else some (.inr ((o,g,k,n,j),0))
def Jf0(x1:J6):Option (Jsd):=(JM x1).bind λe=>if Jr e then some ((0,0,[],[],[]),15)else Jc (Jpu) (0,x1,[],0,0,[],[],[],[],x1.1,x1.2.1,x1.2.2.2.2.2.1,x1.2.2.2.2.2.2.1)
def Jcd(x1:J6):Option (Jg1):=(Jf0 x1).bind λg=>if neI g.2 0 then some ((0,0,(0,[],0),(0,[],0),([],[]),[],[],[]),0,g.2)else(J9c g.1).bind λh=>if gtI (J0 h.1) 8192 then some ((0,0,(0,[],0),(0,[],0),([],[]),[],[],[]),0,21)else(J1m (x1,0,6,0,0,0,0,(0,0,(false,[]),false,[]),h.1)).bind λe=>if neI e.2.2 0 then some ((0,0,(0,[],0),(0,[],0),([],[]),[],[],[]),0,e.2.2)else(J38 (e.1.2.2.1,e.2.1)).bind λj=>some ((e.1.1,e.1.2.1,j.1,e.1.2.2.2),e.2.1,0)
def J6l(x1:Jx):Option (Jv3):=(Jcd x1.1).bind λe=>if neI e.2.2 0 then some (((0,0,(0,[],0),(0,[],0),([],[]),[],[],[]),[],0,[],false,[]),0,e.2.2)else some ((e.1,x1.2),e.2.1,0)
def J2G(x1:J1l):Option (J6):=(J5C x1.1.2.2.1).bind λg=>(J38 (x1.1.2.2.1,JbE x1.2 g)).bind λe=>if eqI e.2 0 then some (x1.1.1,x1.1.2.1,e.1,x1.1.2.2.2)else some x1.1
def J4Q(x1:J1l):Option (J6×Jy×Int):=(JM x1.1).bind λg=>if Jr g then some ((0,0,(0,[],0),(0,[],0),([],[]),[],[],[]),(0,0,Vector.replicate 16 (false,[])),15)else(J32 (x1.1.2.2.2.1,x1.2)).bind λe=>if Jr e.2 then some ((0,0,(0,[],0),(0,[],0),([],[]),[],[],[]),(0,0,Vector.replicate 16 (false,[])),18)else(J2G (x1.1,e.1.2.1)).bind λh=>some (h,e.1,0)
def Jny:(List UInt8)×Int×JA->Option (((List UInt8)×Int×JA)⊕((JDp)⊕Int)):=fun(h,g,e)=>if ltI e.2 8 then if eqI (JiA .u32 g 1) 1 then(JbG .u32 g 1).bind λk=>some (.inl (h,J4f .u32 k 2197175160,e.1,J2 .i64 e.2 1))else(JbG .u32 g 1).bind λj=>some (.inl (h,j,e.1,J2 .i64 e.2 1))else some (.inr (.inl (h,g,J2 .i64 e.1 1)))
def Jox:JDp->Option ((JDp)⊕Int):=fun(e,h,g)=>if ltI g (J0 e)then(Jgk e g).bind λj=>Jc (Jny) (e,J4f .u32 h (cvI .u32 j),g,0)else some (.inr (JKw .u32 h))
def J6J(x1:List UInt8):Option (Int):=Jc (Jox) (x1,4294967295,0)
def J2j(x1:Jy):Option (Int):=(J1K x1).bind λg=>if Jr g then some 1 else(J1X x1).bind λe=>if Jr e then some 22 else some 0
def J4R(x1:Int):Option (List UInt8):=(mkS 1 x1 x1 0).bind λe=>some (toStr e)
def Jgz:(List UInt8)×Int×Jy->Option (((List UInt8)×Int×Jy)⊕(J2A)):=fun(h,e,g)=>if ltI e 16 then(inb 16 e).bind λ_=>(vat g.2.2 (Int.toNat e)).bind λG=>if G.1 then(inb 16 e).bind λ_=>(vat g.2.2 (Int.toNat e)).bind λH=>(JR (h,J0 H.2,1)).bind λn=>(inb 16 e).bind λ_=>(vat g.2.2 (Int.toNat e)).bind λB=>(inb 16 e).bind λ_=>(vat g.2.2 (Int.toNat e)).bind λz=>(J4R (JI .i64 12 (J0 z.2))).bind λq=>(J3Y B.2 q).bind λA=>(J3Y n A).bind λw=>some (.inl (w,J2 .i64 e 1,g))else(JR (h,255,1)).bind λx=>(inb 16 e).bind λ_=>(vat g.2.2 (Int.toNat e)).bind λy=>(inb 16 e).bind λ_=>(vat g.2.2 (Int.toNat e)).bind λD=>(J4R (JI .i64 12 (J0 D.2))).bind λv=>(J3Y y.2 v).bind λo=>(J3Y x o).bind λk=>some (.inl (k,J2 .i64 e 1,g))else Option.map .inr ((J4R (JI .i64 244 (J0 h))).bind λr=>(J3Y h r).bind λj=>(J6J j).bind λF=>(JR (j,cvI .i64 F,4)).bind λE=>(JR (E,g.2.1,8)).bind λC=>some (C,0))
def J4b(x1:Jy):Option (J2A):=(J2j x1).bind λe=>if neI e 0 then some ([],e)else(JR ([],x1.2.1,8)).bind λg=>(JR (g,x1.1,4)).bind λh=>Jc (Jgz) (h,0,x1)
def J8F(x1:J0i):Option (JSy):=(J3g 16 x1.1).bind λg=>(J3g 8 x1.2.2.1).bind λe=>(J3g 48 x1.2.2.2.2).bind λh=>some (x1.2.1,e,x1.2.2.2.1,g,h)
def Jek:(List Int)×Int×Int×(List Int)->Option (((List Int)×Int×Int×(List Int))⊕(List Int)):=fun(g,j,e,h)=>if ltI e (J0 g)then(idx g e).bind λk=>if neI k j then(idx g e).bind λn=>(JN 8 h [n]).bind λo=>some (.inl (g,j,J2 .i64 e 1,o))else some (.inl (g,j,J2 .i64 e 1,h))else some (.inr h)
def J6b(x1:Jdn):Option (List Int):=Jc (Jek) (x1.1,x1.2,0,[])
def J1F(x1:Int×(List Int)×Bool×Int×(List UInt8)×Int×(List (List UInt8))×(List JQ)):Option (JSy):=(J0Q x1.2.2.2.2.1 none (some x1.2.2.2.2.2.1)).bind λg=>(inb (List.length x1.2.2.2.2.2.2.1) x1.2.2.2.1).bind λ_=>(lat x1.2.2.2.2.2.2.1 (Int.toNat x1.2.2.2.1)).bind λj=>(J0Q j (some x1.2.2.2.2.2.1) none).bind λk=>(J3Y g k).bind λe=>(inb (List.length x1.2.2.2.2.2.2.1) x1.2.2.2.1).bind λ_=>(lat x1.2.2.2.2.2.2.1 (Int.toNat x1.2.2.2.1)).bind λ_=>(J6b (x1.2.1,x1.2.2.2.1)).bind λh=>some (x1.1,h,x1.2.2.1,J0w x1.2.2.2.2.2.2.1 (Int.toNat x1.2.2.2.1) e,x1.2.2.2.2.2.2.2)
def J36(x1:J0i×JQ):Option (Bool):=if leI x1.2.2.1 x1.1.2.1=false then if gtI x1.2.2.1 1099511627776=false then if ltI x1.2.2.2.1 0=false then if geI x1.2.2.2.1 (J0 x1.1.1)=false then if ltI x1.2.2.2.2.1 0=false then if geI x1.2.2.2.2.1 (J0 x1.1.1)=false then if ltI x1.2.2.2.2.2.1 0=false then if geI x1.2.2.2.2.2.1 256 then some false else if eqI x1.2.1 1 then some (eqT JO x1.2 (x1.2.1,x1.2.2.1,0,0,0,0))else if eqI x1.2.1 6 then some (eqT JO x1.2 (x1.2.1,x1.2.2.1,0,0,0,0))else if eqI x1.2.1 2 then some (eqT JO x1.2 (x1.2.1,x1.2.2.1,0,x1.2.2.2.2.1,0,0))else if eqI x1.2.1 3 then some (eqT JO x1.2 (x1.2.1,x1.2.2.1,0,0,x1.2.2.2.2.2.1,0))else if eqI x1.2.1 4 then if eqI x1.2.2.2.2.2.2 0 then some false else some (eqT JO x1.2 (x1.2.1,x1.2.2.1,x1.2.2.2.1,0,x1.2.2.2.2.2))else if eqI x1.2.1 5 then some (eqT JO x1.2 (x1.2.1,x1.2.2.1,x1.2.2.2.1,0,0,0))else some false else some false else some false else some false else some false else some false else some false else some false
def JbC(z9:Int×J0i):Option ((Int×J0i)⊕Bool):=if ltI z9.1 (J0 z9.2.2.2.2.2)then(idx z9.2.2.2.2.2 z9.1).bind λe=>(J36 (z9.2,e)).bind λg=>if Jr g then some (.inr false)else some (.inl (J2 .i64 z9.1 1,z9.2))else some (.inr true)
def Jc3:JDa->Option ((JDa)⊕Bool):=fun(h,g,e)=>if ltI g (J0 e.2.2.1)then(idx e.2.2.1 g).bind λo=>if ltI o 0=false then(idx e.2.2.1 g).bind λk=>if geI k h=false then if gtI g 0 then(idx e.2.2.1 (JI .i64 g 1)).bind λj=>(idx e.2.2.1 g).bind λn=>if geI j n then some (.inr false)else some (.inl (h,J2 .i64 g 1,e))else some (.inl (h,J2 .i64 g 1,e))else some (.inr false)else some (.inr false)else Option.map .inr (Jc (JbC) (0,e))
def Jbr:JDa->Option ((JDa)⊕Bool):=fun(e,g,h)=>if ltI g e then(idx h.1 g).bind λj=>if neI (J0 j) 256 then some (.inr false)else some (.inl (e,J2 .i64 g 1,h))else Option.map .inr (Jc (Jc3) (e,0,h))
def J37(x1:J0i):Option (Bool):=if ltI (J0 x1.1) 1=false then if gtI (J0 x1.1) 64=false then if ltI x1.2.1 0=false then if gtI x1.2.1 1099511627776=false then if gtI (J0 x1.2.2.2.2) 64 then some false else Jc (Jbr) (J0 x1.1,0,x1)else some false else some false else some false else some false
def J2q(x1:J6X):Option (Int):=(J37 x1.1).bind λe=>if Jr e then some 15 else if x1.1.2.2.2.1 then some 10 else if ltI x1.2 0=false then if geI x1.2 (J0 x1.1.1)then some 1 else some 0 else some 1
def JkA:JLj->Option ((JLj)⊕(List Int)):=fun(e,h,k,g,j)=>if ltI g (J0 e)then if Jr k then(idx e g).bind λz=>if geI z h then(JN 8 j [h]).bind λw=>(idx e g).bind λC=>if neI C h then(idx e g).bind λy=>(JN 8 w [y]).bind λx=>some (.inl (e,h,true,J2 .i64 g 1,x))else some (.inl (e,h,true,J2 .i64 g 1,w))else(idx e g).bind λB=>if neI B h then(idx e g).bind λA=>(JN 8 j [A]).bind λn=>some (.inl (e,h,k,J2 .i64 g 1,n))else some (.inl (e,h,k,J2 .i64 g 1,j))else(idx e g).bind λr=>if neI r h then(idx e g).bind λq=>(JN 8 j [q]).bind λv=>some (.inl (e,h,k,J2 .i64 g 1,v))else some (.inl (e,h,k,J2 .i64 g 1,j))else Option.map .inr (if Jr k then(JN 8 j [h]).bind λo=>some o else some j)
def J5D(x1:Jdn):Option (List Int):=Jc (JkA) (x1.1,x1.2,false,0,[])
def J6s:TQ7->Option ((TQ7)⊕(J6X)):=fun(j,x,w,A,v,z,B,e,y,r,n,k,q,g,o)=>if ltI j (J0 g)then(inb (List.length g) j).bind λ_=>(lat g (Int.toNat j)).bind λh=>if eqI h.1 4 then(inb (List.length e) h.2.2.1).bind λ_=>(lat e (Int.toNat h.2.2.1)).bind λC=>(inb (List.length (toByt C)) h.2.2.2.2.1).bind λ_=>(lat (toByt C) (Int.toNat h.2.2.2.2.1)).bind λE=>(inb (List.length (toByt C)) h.2.2.2.2.1).bind λ_=>(lat (toByt C) (Int.toNat h.2.2.2.2.1)).bind λ_=>(inb (List.length e) h.2.2.1).bind λ_=>(lat e (Int.toNat h.2.2.1)).bind λ_=>some (.inl (J2 .i64 j 1,x,w,A,v,z,B,J0w e (Int.toNat h.2.2.1) (toStr (J0w (toByt C) (Int.toNat h.2.2.2.2.1) (J4f .u8 E h.2.2.2.2.2))),y,r,n,k,q,g,o))else if eqI h.1 5 then(J5D (k,h.2.2.1)).bind λD=>some (.inl (J2 .i64 j 1,x,w,A,v,z,B,e,y,r,n,D,q,g,o))else if eqI h.1 6 then some (.inl (J2 .i64 j 1,x,w,A,v,z,B,e,y,r,n,k,true,g,o))else some (.inl (J2 .i64 j 1,x,w,A,v,z,B,e,y,r,n,k,q,g,o))else some (.inr ((e,n,k,q,o),0))
def JwV:TQ7->Option ((TQ7)⊕(J6X)):=fun(j,r,z,x,A,v,w,e,y,B,k,o,q,g,n)=>if ltI j (J0 g)then(inb (List.length g) j).bind λ_=>(lat g (Int.toNat j)).bind λh=>if eqI h.1 4 then(inb (List.length e) h.2.2.1).bind λ_=>(lat e (Int.toNat h.2.2.1)).bind λC=>(inb (List.length (toByt C)) h.2.2.2.2.1).bind λ_=>(lat (toByt C) (Int.toNat h.2.2.2.2.1)).bind λE=>(inb (List.length (toByt C)) h.2.2.2.2.1).bind λ_=>(lat (toByt C) (Int.toNat h.2.2.2.2.1)).bind λ_=>(inb (List.length e) h.2.2.1).bind λ_=>(lat e (Int.toNat h.2.2.1)).bind λ_=>some (.inl (J2 .i64 j 1,r,z,x,A,v,w,J0w e (Int.toNat h.2.2.1) (toStr (J0w (toByt C) (Int.toNat h.2.2.2.2.1) (J4f .u8 E h.2.2.2.2.2))),y,B,k,o,q,g,n))else if eqI h.1 5 then(J5D (o,h.2.2.1)).bind λD=>some (.inl (J2 .i64 j 1,r,z,x,A,v,w,e,y,B,k,D,q,g,n))else if eqI h.1 6 then some (.inl (J2 .i64 j 1,r,z,x,A,v,w,e,y,B,k,o,true,g,n))else some (.inl (J2 .i64 j 1,r,z,x,A,v,w,e,y,B,k,o,q,g,n))else some (.inr ((e,k,o,q,n),0))
def Jwz:TQ7->Option ((TQ7)⊕(J6X)):=fun(j,r,z,x,v,y,A,e,w,B,n,k,q,g,o)=>if ltI j (J0 g)then(inb (List.length g) j).bind λ_=>(lat g (Int.toNat j)).bind λh=>if eqI h.1 4 then(inb (List.length e) h.2.2.1).bind λ_=>(lat e (Int.toNat h.2.2.1)).bind λC=>(inb (List.length (toByt C)) h.2.2.2.2.1).bind λ_=>(lat (toByt C) (Int.toNat h.2.2.2.2.1)).bind λD=>(inb (List.length (toByt C)) h.2.2.2.2.1).bind λ_=>(lat (toByt C) (Int.toNat h.2.2.2.2.1)).bind λ_=>(inb (List.length e) h.2.2.1).bind λ_=>(lat e (Int.toNat h.2.2.1)).bind λ_=>some (.inl (J2 .i64 j 1,r,z,x,v,y,A,J0w e (Int.toNat h.2.2.1) (toStr (J0w (toByt C) (Int.toNat h.2.2.2.2.1) (J4f .u8 D h.2.2.2.2.2))),w,B,n,k,q,g,o))else if eqI h.1 5 then(J5D (k,h.2.2.1)).bind λE=>some (.inl (J2 .i64 j 1,r,z,x,v,y,A,e,w,B,n,E,q,g,o))else if eqI h.1 6 then some (.inl (J2 .i64 j 1,r,z,x,v,y,A,e,w,B,n,k,true,g,o))else some (.inl (J2 .i64 j 1,r,z,x,v,y,A,e,w,B,n,k,q,g,o))else some (.inr ((e,n,k,q,o),0))
def Jw8:TQ7->Option ((TQ7)⊕(J6X)):=fun(j,v,B,z,r,y,w,e,A,x,o,n,q,h,k)=>if ltI j (J0 h)then(inb (List.length h) j).bind λ_=>(lat h (Int.toNat j)).bind λg=>if eqI g.1 4 then(inb (List.length e) g.2.2.1).bind λ_=>(lat e (Int.toNat g.2.2.1)).bind λC=>(inb (List.length (toByt C)) g.2.2.2.2.1).bind λ_=>(lat (toByt C) (Int.toNat g.2.2.2.2.1)).bind λD=>(inb (List.length (toByt C)) g.2.2.2.2.1).bind λ_=>(lat (toByt C) (Int.toNat g.2.2.2.2.1)).bind λ_=>(inb (List.length e) g.2.2.1).bind λ_=>(lat e (Int.toNat g.2.2.1)).bind λ_=>some (.inl (J2 .i64 j 1,v,B,z,r,y,w,J0w e (Int.toNat g.2.2.1) (toStr (J0w (toByt C) (Int.toNat g.2.2.2.2.1) (J4f .u8 D g.2.2.2.2.2))),A,x,o,n,q,h,k))else if eqI g.1 5 then(J5D (n,g.2.2.1)).bind λE=>some (.inl (J2 .i64 j 1,v,B,z,r,y,w,e,A,x,o,E,q,h,k))else if eqI g.1 6 then some (.inl (J2 .i64 j 1,v,B,z,r,y,w,e,A,x,o,n,true,h,k))else some (.inl (J2 .i64 j 1,v,B,z,r,y,w,e,A,x,o,n,q,h,k))else some (.inr ((e,o,n,q,k),0))
def JbT:TQ5->Option ((TQ5)⊕(J6X)):=fun(C,v,D,g,y,z,w,A,x,B,r,n,o,h,k,j,e,q)=>if ltI g (J0 e)then if Jr D then(inb (List.length e) g).bind λ_=>(lat e (Int.toNat g)).bind λI=>if eqI I.1 1 then some (.inl (C,v,true,J2 .i64 g 1,y,z,w,A,x,B,r,n,o,h,k,j,e,q))else if eqI I.1 2 then(inb (List.length e) g).bind λ_=>(lat e (Int.toNat g)).bind λK=>(J1F (h,k,j,K.2.2.2.1,v,256,r,q)).bind λE=>some (.inl (C,v,true,J2 .i64 g 1,y,z,w,A,x,B,E.2.2.2.1,n,o,E.1,E.2.1,E.2.2.1,e,E.2.2.2.2))else if eqI I.1 3 then(inb (List.length e) g).bind λ_=>(lat e (Int.toNat g)).bind λJ=>(J1F (h,k,j,C,v,J.2.2.2.2.1,r,q)).bind λG=>some (.inl (C,v,true,J2 .i64 g 1,y,z,w,A,x,B,G.2.2.2.1,n,o,G.1,G.2.1,G.2.2.1,e,G.2.2.2.2))else some (.inl (C,v,D,J2 .i64 g 1,y,z,w,A,x,B,r,n,o,h,k,j,e,q))else Option.map .inr (if Jr D then(J1F (h,k,j,C,v,256,r,q)).bind λH=>Jc (J6s) (0,y,z,w,A,x,B,H.2.2.2.1,n,o,H.1,H.2.1,H.2.2.1,e,H.2.2.2.2)else Jc (JwV) (0,y,z,w,A,x,B,r,n,o,h,k,j,e,q))else Option.map .inr (if Jr D then(J1F (h,k,j,C,v,256,r,q)).bind λF=>Jc (Jwz) (0,y,z,w,A,x,B,F.2.2.2.1,n,o,F.1,F.2.1,F.2.2.1,e,F.2.2.2.2)else Jc (Jw8) (0,y,z,w,A,x,B,r,n,o,h,k,j,e,q))
def JbV:TQ6->Option ((TQ6)⊕(J6X)):=fun(C,z,g,e,B,y,w,v,x,A,j,r,h,n,o,q,k)=>if ltI g (J0 e.2.2.2.2)then(idx e.2.2.2.2 g).bind λF=>if eqI F.2.1 h then(idx e.2.2.2.2 g).bind λG=>(JN 48 q [G]).bind λD=>some (.inl (C,z,J2 .i64 g 1,e,B,y,w,v,x,A,j,r,h,n,o,D,k))else(idx e.2.2.2.2 g).bind λE=>(JN 48 k [E]).bind λH=>some (.inl (C,z,J2 .i64 g 1,e,B,y,w,v,x,A,j,r,h,n,o,q,H))else Option.map .inr (Jc (JbT) (C,z,false,0,e,B,y,w,v,x,A,j,r,h,n,o,q,k))
def JaF(x1:J0i×Int×(List UInt8)):Option (J6X):=(J2q (x1.1,x1.2.1)).bind λg=>if neI g 0 then some (([],0,[],false,[]),g)else if neI (J0 x1.2.2) 256 then some (([],0,[],false,[]),2)else if eqI x1.1.2.1 1099511627776 then some (([],0,[],false,[]),21)else(J8F x1.1).bind λe=>Jc (JbV) (x1.2.1,x1.2.2,0,x1.1,[],[],0,[],false,e.2.2.2.1,e.2.2.2.2,[],J2 .i64 e.1 1,e.2.1,e.2.2.1,[],[])
def J2r(x1:J00×Int×JP):Option (J00):=(J3g 424 x1.1.2.1).bind λe=>(inb (List.length e) x1.2.1).bind λ_=>(lat e (Int.toNat x1.2.1)).bind λ_=>some (x1.1.1,J0w e (Int.toNat x1.2.1) x1.2.2,x1.1.2.2)
def JaQ(x1:JDm):Option (J4A):=(J0g x1.1).bind λk=>if Jr k then some ((0,[],0),15)else(J1M (x1.1,x1.2.1)).bind λg=>if ltI g 0 then some ((0,[],0),18)else(idx x1.1.2.1 g).bind λe=>if gtI x1.2.2 e.1.2.1 then some ((0,[],0),9)else if Jr e.2.1 then some (x1.1,0)else if eqI e.1.2.1 x1.2.2 then(J2r (x1.1,g,e.1,false,0,e.2.2.2)).bind λn=>some (n,0)else if leI e.2.2.1 x1.2.2 then(J2r (x1.1,g,e.1,e.2.1,J2 .i64 x1.2.2 1,e.2.2.2)).bind λj=>some (j,0)else(J2r (x1.1,g,e)).bind λh=>some (h,0)
def J3C(x1:Jg1):Option (J1l):=(JM x1.1).bind λk=>if Jr k then some ((0,0,(0,[],0),(0,[],0),([],[]),[],[],[]),15)else if ltI x1.2.1 0=false then if geI x1.2.1 x1.1.1=false then if ltI x1.2.2 0=false then(J5C x1.1.2.2.1).bind λj=>if gtI x1.2.2 j then some ((0,0,(0,[],0),(0,[],0),([],[]),[],[],[]),1)else(J1v (x1.1.2.2.2.1,x1.2.1)).bind λn=>if geI n 0 then(JaQ (x1.1.2.2.2.1,x1.2)).bind λh=>if neI h.2 0 then some ((0,0,(0,[],0),(0,[],0),([],[]),[],[],[]),h.2)else(J1m (x1.1,0,7,0,0,0,x1.2.2,(x1.2.1,0,(false,[]),false,[]),[])).bind λg=>if neI g.2.2 0 then some ((0,0,(0,[],0),(0,[],0),([],[]),[],[],[]),g.2.2)else some ((g.1.1,g.1.2.1,g.1.2.2.1,h.1,g.1.2.2.2.2),0)else(J1m (x1.1,0,7,0,0,0,x1.2.2,(x1.2.1,0,(false,[]),false,[]),[])).bind λe=>if neI e.2.2 0 then some ((0,0,(0,[],0),(0,[],0),([],[]),[],[],[]),e.2.2)else some ((e.1.1,e.1.2.1,e.1.2.2.1,x1.1.2.2.2.1,e.1.2.2.2.2),0)else some ((0,0,(0,[],0),(0,[],0),([],[]),[],[],[]),1)else some ((0,0,(0,[],0),(0,[],0),([],[]),[],[],[]),1)else some ((0,0,(0,[],0),(0,[],0),([],[]),[],[],[]),1)
def J3Q(x1:JOI):Option (J42):=(J4b x1.2.2).bind λh=>(JaF (x1.1.2,x1.2.2.1,h.1)).bind λe=>if neI e.2 0 then some (((0,0,(0,[],0),(0,[],0),([],[]),[],[],[]),[],0,[],false,[]),e.2)else(J3C (x1.2.1,x1.2.2.1,x1.2.2.2.1)).bind λg=>if neI g.2 0 then some (((0,0,(0,[],0),(0,[],0),([],[]),[],[],[]),[],0,[],false,[]),g.2)else some ((g.1,e.1),0)
def Jas(x1:J42):Option (J42):=(J4Q (x1.1.1,x1.2)).bind λe=>if neI e.2.2 0 then some (((0,0,(0,[],0),(0,[],0),([],[]),[],[],[]),[],0,[],false,[]),e.2.2)else(J1v (x1.1.1.2.2.2.1,x1.2)).bind λg=>(idx x1.1.1.2.2.2.1.2.1 g).bind λh=>if Jr h.2.1 then some (x1.1,0)else(J3Q (x1.1,e.1,e.2.1)).bind λj=>some j
def JkT:JRG->Option ((JRG)⊕(List T_api_Grant)):=fun(e,k,h,g,j,n)=>if ltI g (J0 e)then(idx e g).bind λr=>if neI r.1 k=false then if h then(idx e g).bind λw=>if Jr (eqT JY w.2.1 j)then(idx e g).bind λx=>(JN 32 n [x]).bind λq=>some (.inl (e,k,h,J2 .i64 g 1,j,q))else some (.inl (e,k,h,J2 .i64 g 1,j,n))else some (.inl (e,k,h,J2 .i64 g 1,j,n))else(idx e g).bind λo=>(JN 32 n [o]).bind λv=>some (.inl (e,k,h,J2 .i64 g 1,j,v))else some (.inr n)
def J5K(x1:JSu):Option (List T_api_Grant):=Jc (JkT) (x1.1,x1.2.1,x1.2.2.1,0,x1.2.2.2,[])
def Jl4:Jdg->Option ((Jdg)⊕Bool):=fun(e,g,h)=>if ltI g e then(idx h.2 g).bind λj=>(idx h.2 e).bind λn=>(J2g (j,n)).bind λk=>if k then some (.inr false)else some (.inl (e,J2 .i64 g 1,h))else some (.inr true)
def Jlj:Jdg->Option ((Jdg)⊕Bool):=fun(g,h,e)=>if ltI h (J0 e.1)then(idx e.1 h).bind λj=>(idx e.2 g).bind λk=>(J2g (j,k)).bind λn=>if n then some (.inr false)else some (.inl (g,J2 .i64 h 1,e))else Option.map .inr (Jc (Jl4) (g,0,e))
def Jbv(x1:JaK):Option (Bool):=Jc (Jlj) (x1.2,0,x1.1)
def Jk2:JP3->Option ((JP3)⊕(List T_api_Grant)):=fun(g,k,e,h,j)=>if ltI e (J0 g)then if Jr k then(idx g e).bind λI=>(J92 (I,h)).bind λM=>if Jr M then(JN 32 j [h]).bind λn=>(idx g e).bind λK=>if neI K.1 h.1=false then(idx g e).bind λH=>if Jr (eqT JY H.2.1 h.2.1)then(idx g e).bind λJ=>(JN 32 n [J]).bind λL=>some (.inl (g,true,J2 .i64 e 1,h,L))else some (.inl (g,true,J2 .i64 e 1,h,n))else(idx g e).bind λo=>(JN 32 n [o]).bind λG=>some (.inl (g,true,J2 .i64 e 1,h,G))else(idx g e).bind λE=>if neI E.1 h.1=false then(idx g e).bind λq=>if Jr (eqT JY q.2.1 h.2.1)then(idx g e).bind λC=>(JN 32 j [C]).bind λw=>some (.inl (g,k,J2 .i64 e 1,h,w))else some (.inl (g,k,J2 .i64 e 1,h,j))else(idx g e).bind λD=>(JN 32 j [D]).bind λy=>some (.inl (g,k,J2 .i64 e 1,h,y))else(idx g e).bind λz=>if neI z.1 h.1=false then(idx g e).bind λB=>if Jr (eqT JY B.2.1 h.2.1)then(idx g e).bind λA=>(JN 32 j [A]).bind λr=>some (.inl (g,k,J2 .i64 e 1,h,r))else some (.inl (g,k,J2 .i64 e 1,h,j))else(idx g e).bind λF=>(JN 32 j [F]).bind λx=>some (.inl (g,k,J2 .i64 e 1,h,x))else Option.map .inr (if Jr k then(JN 32 j [h]).bind λv=>some v else some j)
def Jcs(x1:JiN):Option (List T_api_Grant):=Jc (Jk2) (x1.1,false,0,x1.2,[])
def Jga:Int×JX×JX->Option ((Int×JX×JX)⊕JX):=fun(g,e,h)=>if ltI g (J0 e.2)then(Jbv (e,g)).bind λn=>if n then(idx e.2 g).bind λr=>(Jcs (e.1,r)).bind λv=>(J0Q e.2 none (some g)).bind λk=>(J3g 32 k).bind λj=>(J0Q e.2 (some (J2 .i64 g 1)) none).bind λq=>(JN 32 j q).bind λo=>some (.inl (J2 .i64 (-1) 1,(v,o),h))else some (.inl (J2 .i64 g 1,e,h))else some (.inr e)
def J3n(x1:JX):Option (JX):=Jc (Jga) (0,x1,[],[])
def J3J(x1:JaK):Option (JX):=(J1s x1.1).bind λg=>if Jr g then some x1.1 else(J5K (x1.1.1,x1.2,false,0,0)).bind λe=>(J5K (x1.1.2,x1.2,false,0,0)).bind λh=>(J3n (e,h)).bind λj=>some j
def J1g(x1:J1l):Option (Jq×Int):=(JM x1.1).bind λg=>if Jr g then some ((0,0,0,0,[],[]),15)else(J0R (x1.1.2.2.2.2.2.1,x1.2)).bind λe=>if ltI e 0 then some ((0,0,0,0,[],[]),16)else(idx x1.1.2.2.2.2.2.1 e).bind λh=>if eqI h.2.1 1 then some ((0,0,0,0,[],[]),15)else(idx x1.1.2.2.2.2.2.1 e).bind λj=>some (j,0)
def J3F(x1:J1l):Option (JrL):=(J1g x1).bind λe=>if neI e.2 0=false then if eqI (J0 e.1.2.2.2.2.1) 0=false then(idx e.1.2.2.2.2.1 (JI .i64 (J0 e.1.2.2.2.2.1) 1)).bind λh=>if leI h e.1.2.2.2.1 then some ((0,0,0,0,0,0,(0,0,(false,[]),false,[]),[]),false)else(idx e.1.2.2.2.2.1 (JI .i64 (J0 e.1.2.2.2.2.1) 1)).bind λj=>(J0N (x1.1.2.2.1,j)).bind λg=>some (g.1,eqI g.2 0)else some ((0,0,0,0,0,0,(0,0,(false,[]),false,[]),[]),false)else some ((0,0,0,0,0,0,(0,0,(false,[]),false,[]),[]),false)
def J3V(x1:Jy×J1u):Option (J5d):=(J64 x1.2).bind λe=>if Jr e then some ((0,0,Vector.replicate 16 (false,[])),22)else if neI x1.2.1 x1.1.1 then some ((0,0,Vector.replicate 16 (false,[])),6)else(inb 16 x1.2.2.1).bind λ_=>(vat x1.1.2.2 (Int.toNat x1.2.2.1)).bind λg=>if Jr (eqT Jj g x1.2.2.2.1)then some ((0,0,Vector.replicate 16 (false,[])),20)else(inb 16 x1.2.2.1).bind λ_=>(vat x1.1.2.2 (Int.toNat x1.2.2.1)).bind λ_=>some ((x1.1.1,x1.1.2.1,J9U x1.1.2.2 (Int.toNat x1.2.2.1) x1.2.2.2.2),0)
def J8r(x1:J1u):Option (J1u):=some (x1.1,x1.2.1,x1.2.2.2,x1.2.2.1)
def J8T(x1:Js0):Option (JX):=(J1s x1.1).bind λg=>if Jr g then some x1.1 else(J5K (x1.1.1,x1.2.1,true,x1.2.2)).bind λe=>(J3n (e,x1.1.2)).bind λh=>some h
def J9H(x1:JDf):Option (J4A):=(J0g x1.1).bind λn=>if Jr n then some ((0,[],0),15)else(J2j x1.2).bind λh=>if neI h 0 then some ((0,[],0),h)else(J1M (x1.1,x1.2.1)).bind λe=>if ltI e 0 then some ((0,[],0),18)else(idx x1.1.2.1 e).bind λg=>if leI x1.2.2.1 g.1.2.1 then some ((0,[],0),8)else if Jr g.2.1 then(J2r (x1.1,e,x1.2,true,x1.2.2.1,true)).bind λk=>some (k,0)else(J2r (x1.1,e,x1.2,true,g.2.2.1,true)).bind λj=>some (j,0)
def J8d(x1:Jza):Option (J1l):=(J1m x1).bind λe=>if neI e.2.2 0 then some (x1.1,e.2.2)else(J32 (x1.1.2.2.2.1,x1.2.2.2.2.2.2.2.1.1)).bind λh=>(inb 16 x1.2.2.2.2.2.2.2.1.2.1).bind λ_=>(vat h.1.2.2 (Int.toNat x1.2.2.2.2.2.2.2.1.2.1)).bind λ_=>(J9H (x1.1.2.2.2.1,h.1.1,e.2.1,J9U h.1.2.2 (Int.toNat x1.2.2.2.2.2.2.2.1.2.1) x1.2.2.2.2.2.2.2.1.2.2.2)).bind λg=>if neI g.2 0 then some (x1.1,g.2)else some ((e.1.1,e.1.2.1,e.1.2.2.1,g.1,e.1.2.2.2.2),0)
def Jfj:TQ33->Option ((TQ33)⊕(JrL)):=fun(e,j,h,g,k)=>if geI e 0 then(idx h.2.2.2.2.1 e).bind λo=>(J0N (j.2.2.1,o)).bind λn=>if eqI n.2 0 then if eqI n.1.2.2.2.2.2.2.1.1 g.1 then if eqI n.1.2.2.2.2.2.2.1.2.1 g.2 then some (.inr (n.1,true))else some (.inl (JI .i64 e 1,j,h,g,k))else some (.inl (JI .i64 e 1,j,h,g,k))else some (.inl (JI .i64 e 1,j,h,g,k))else some (.inr ((0,0,0,0,0,0,(0,0,(false,[]),false,[]),[]),false))
def J7C(x1:JRT):Option (JrL):=Jc (Jfj) (JI .i64 x1.2.2.2 1,x1.1,x1.2.1,x1.2.2.1,0,0,0,0,0,0,(0,0,(false,[]),false,[]),[])
def J2N(x1:JrT):Option (JrL):=(J1g (x1.1,x1.2.1)).bind λe=>if neI e.2 0=false then if neI e.1.2.1 3 then some ((0,0,0,0,0,0,(0,0,(false,[]),false,[]),[]),false)else(J7C (x1.1,e.1,x1.2.2,J0 e.1.2.2.2.2.1)).bind λg=>some g else some ((0,0,0,0,0,0,(0,0,(false,[]),false,[]),[]),false)
def J2i(x1:JMy):Option (J7z):=(J32 (x1.1.2.2.2.1,x1.2.2.2.2.2.2.2.2.1.1)).bind λh=>if Jr h.2 then some (x1.1,3,0,x1.2.2.2.2.2.2.2.2.1.1,(false,[]),0)else(J8r x1.2.2.2.2.2.2.2.2.1).bind λg=>(J3V (h.1,g)).bind λj=>if neI j.2 0 then(Jz j.2).bind λq=>some (x1.1,q)else(J8d (x1.1,0,2,x1.2.1.1,0,0,x1.2.2.1,g,[])).bind λe=>if neI e.2 0 then(Jz e.2).bind λk=>some (x1.1,k)else if eqI x1.2.1.2.1 3 then(J2N (e.1,x1.2.1.1,g.1,g.2.1)).bind λo=>if Jr o.2 then(J8T (e.1.2.2.2.2.1,x1.2.1.1,g.1,g.2.1)).bind λn=>some ((e.1.1,e.1.2.1,e.1.2.2.1,e.1.2.2.2.1,n,e.1.2.2.2.2.2),1,x1.2.1.1,0,(false,[]),0)else some (e.1,1,x1.2.1.1,0,(false,[]),0)else some (e.1,1,x1.2.1.1,0,(false,[]),0)
def J1k(x1:J1l):Option (J7z):=(J1g x1).bind λg=>if neI g.2 0 then(Jz g.2).bind λq=>some (x1.1,q)else if eqI g.1.2.1 3 then if eqI (J0 g.1.2.2.2.2.1) 0 then(J1m (x1.1,0,5,x1.2,0,0,0,(0,0,(false,[]),false,[]),[])).bind λe=>if neI e.2.2 0 then(Jz e.2.2).bind λw=>some (x1.1,w)else(J3J (e.1.2.2.2.2.1,x1.2)).bind λo=>some ((e.1.1,e.1.2.1,e.1.2.2.1,e.1.2.2.2.1,o,e.1.2.2.2.2.2),1,0,0,(false,[]),0)else(J3F x1).bind λj=>if Jr j.2 then(Jz 14).bind λv=>some (x1.1,v)else(J2i (x1.1,g.1,j.1)).bind λr=>some r else(J3F x1).bind λh=>if Jr h.2 then(Jz 14).bind λn=>some (x1.1,n)else(J2i (x1.1,g.1,h.1)).bind λk=>some k
def J71(x1:J1l):Option (Jq×Bool):=(JM x1.1).bind λg=>if g then(J0R (x1.1.2.2.2.2.2.1,x1.2)).bind λe=>if geI e 0 then(idx x1.1.2.2.2.2.2.1 e).bind λh=>if eqI h.2.1 3 then(idx x1.1.2.2.2.2.2.1 e).bind λj=>some (j,true)else some ((0,0,0,0,[],[]),false)else some ((0,0,0,0,[],[]),false)else some ((0,0,0,0,[],[]),false)
def Jld:Int×J6×(List Int)->Option ((Int×J6×(List Int))⊕(List Int)):=fun(g,e,h)=>if ltI g (J0 e.2.2.2.2.2.1)then(idx e.2.2.2.2.2.1 g).bind λk=>(J71 (e,k.1)).bind λn=>if n.2 then(idx e.2.2.2.2.2.1 g).bind λo=>(JN 8 h [o.1]).bind λj=>some (.inl (J2 .i64 g 1,e,j))else some (.inl (J2 .i64 g 1,e,h))else some (.inr h)
def Jc4(x1:J6):Option (List Int):=Jc (Jld) (0,x1,[])
def JmV(z2:(List Int)×JA):Option (((List Int)×JA)⊕Bool):=if ltI z2.2.2 (J0 z2.1)then(idx z2.1 z2.2.2).bind λe=>if eqI e z2.2.1 then some (.inr true)else some (.inl (z2.1,z2.2.1,J2 .i64 z2.2.2 1))else some (.inr false)
def Jdj(x1:Jdn):Option (Bool):=Jc (JmV) (x1.1,x1.2,0)
def J95(x1:J6X):Option (J2A):=(J2q x1).bind λe=>if neI e 0 then some ([],e)else(Jdj (x1.1.2.2.1,x1.2)).bind λg=>if g then some ([],11)else(idx x1.1.1 x1.2).bind λh=>some (h,0)
def J7R:(List UInt8)×Int×Int×Int×Int->Option (((List UInt8)×Int×Int×Int×Int)⊕JA):=fun(h,k,g,j,e)=>if ltI e g then(Jgk h (J2 .i64 k e)).bind λn=>(Jru .u64 (cvI .u64 n) (cvI .u64 (J20 .i64 8 e))).bind λo=>some (.inl (h,k,g,orI .u64 j o,J2 .i64 e 1))else some (.inr (cvI .i64 j,0))
def J0e(x1:JZ):Option (JA):=if ltI x1.2.2 1=false then if gtI x1.2.2 8=false then if ltI x1.2.1 0 then some (0,1)else if gtI x1.2.1 (J0 x1.1)=false then if ltI (JI .i64 (J0 x1.1) x1.2.1) x1.2.2 then some (0,5)else Jc (J7R) (x1.1,x1.2.1,x1.2.2,0,0)else some (0,5)else some (0,1)else some (0,1)
def J62(x1:Unit):Option (List UInt8):=(J4R 256).bind λe=>some e
def Jgt:JM1->Option ((JM1)⊕(J5d)):=fun(h,e,j,g)=>if ltI e 16 then(Jgk h (J2 .i64 12 (J20 .i64 e 13))).bind λk=>if eqI (cvI .i64 k) 255 then some (.inl (h,J2 .i64 e 1,j,g))else if gtI (cvI .i64 k) 12 then some (.inr ((0,0,Vector.replicate 16 (false,[])),4))else(J0Q h (some (J2 .i64 (J2 .i64 12 (J20 .i64 e 13)) 1)) (some (J2 .i64 (J2 .i64 (J2 .i64 12 (J20 .i64 e 13)) 1) (cvI .i64 k)))).bind λo=>(inb 16 e).bind λ_=>(vat g.2.2 (Int.toNat e)).bind λ_=>some (.inl (h,J2 .i64 e 1,j,g.1,g.2.1,J9U g.2.2 (Int.toNat e) (true,o)))else Option.map .inr ((J4b g).bind λn=>if neI n.2 0=false then if neS n.1 h then some ((0,0,Vector.replicate 16 (false,[])),4)else some (g,0)else some ((0,0,Vector.replicate 16 (false,[])),4))
def J9l(x1:List UInt8):Option (J5d):=if neI (J0 x1) 256 then some ((0,0,Vector.replicate 16 (false,[])),2)else(J62 ()).bind λj=>if eqS x1 j then some ((0,0,Vector.replicate 16 (false,[])),7)else(J0Q x1 none (some 8)).bind λh=>(J0Q x1 (some 248) none).bind λo=>if neS h o then some ((0,0,Vector.replicate 16 (false,[])),27)else(J0e (x1,244,4)).bind λq=>(J0Q x1 none (some 244)).bind λg=>(J6J g).bind λe=>if neI (cvI .u32 q.1) e then some ((0,0,Vector.replicate 16 (false,[])),3)else(J0e (x1,0,8)).bind λn=>(J0e (x1,8,4)).bind λk=>Jc (Jgt) (x1,0,(0,0,Vector.replicate 16 (false,[])),k.1,n.1,Vector.replicate 16 (false,[]))
def Ja9(x1:Int):Option (Jy):=some (x1,0,Vector.replicate 16 (false,[]))
def J3f(x1:J2A):Option (J5d):=if ltI x1.2 0=false then if geI x1.2 64 then some ((0,0,Vector.replicate 16 (false,[])),1)else(J9l x1.1).bind λe=>if eqI e.2 7 then(Ja9 x1.2).bind λg=>some (g,0)else if eqI e.2 0 then if neI e.1.1 x1.2 then some ((0,0,Vector.replicate 16 (false,[])),6)else some e else some e else some ((0,0,Vector.replicate 16 (false,[])),1)
def J4H(x1:JHv):Option (J5d):=(J1H x1.1).bind λh=>if Jr h then some ((0,0,Vector.replicate 16 (false,[])),28)else if ltI x1.2.1 0=false then if geI x1.2.1 (J0 x1.1)=false then if ltI x1.2.2.1 0 then some ((0,0,Vector.replicate 16 (false,[])),1)else(J3f (x1.2.2.2,x1.2.1)).bind λe=>if neI e.2 0 then some ((0,0,Vector.replicate 16 (false,[])),e.2)else if gtI e.1.2.1 x1.2.2.1 then(idx x1.1 x1.2.1).bind λj=>if gtI e.1.2.1 j.1 then some ((0,0,Vector.replicate 16 (false,[])),9)else(idx x1.1 x1.2.1).bind λk=>if ltI e.1.2.1 k.1 then some ((0,0,Vector.replicate 16 (false,[])),8)else some (e.1,0)else(idx x1.1 x1.2.1).bind λg=>if ltI e.1.2.1 g.1 then some ((0,0,Vector.replicate 16 (false,[])),8)else some (e.1,0)else some ((0,0,Vector.replicate 16 (false,[])),1)else some ((0,0,Vector.replicate 16 (false,[])),1)
def J6z(x1:JDf):Option (Int×Int×Int×(List JP)):=(J0g x1.1).bind λh=>if Jr h then some (0,0,15,[])else(J2j x1.2).bind λe=>if neI e 0 then some (0,0,e,[])else(J1M (x1.1,x1.2.1)).bind λj=>if geI j 0 then some (0,0,25,[])else if eqI (J0 x1.1.2.1) x1.1.1 then some (0,0,21,[])else(J3g 424 x1.1.2.1).bind λk=>(JN 424 k [(x1.2,false,0,true)]).bind λg=>some (x1.1.1,x1.1.2.2,0,g)
def Jb2:JRS->Option ((JRS)⊕(J1l)):=fun(g,e,h,q,n,k,j,r,o)=>if ltI g (J0 e.2.2.2.2.2.2.2)then(idx e.2.2.2.2.2.2.2 g).bind λw=>if neI w.1 h.1 then(idx e.2.2.2.2.2.2.2 g).bind λx=>(JN 24 o [x]).bind λv=>some (.inl (J2 .i64 g 1,e,h,q,n,k,j,r,v))else some (.inl (J2 .i64 g 1,e,h,q,n,k,j,r,o))else some (.inr ((e.1,e.2.1,(e.2.2.1.1,e.2.2.1.2.1,e.2.2.1.2.2),(k,n,j),(e.2.2.2.2.1.1,e.2.2.2.2.1.2),e.2.2.2.2.2.1,e.2.2.2.2.2.2.1,o),0))
def J4e(x1:JLu):Option (J1l):=(JM x1.1).bind λn=>if Jr n then some ((0,0,(0,[],0),(0,[],0),([],[]),[],[],[]),15)else if ltI x1.2.1 0=false then if geI x1.2.1 x1.1.1 then some ((0,0,(0,[],0),(0,[],0),([],[]),[],[],[]),1)else(J4q (x1.1,x1.2.1)).bind λk=>if ltI x1.2.2.1 k then some ((0,0,(0,[],0),(0,[],0),([],[]),[],[],[]),8)else(J4q (x1.1,x1.2.1)).bind λo=>if gtI x1.2.2.1 o then some ((0,0,(0,[],0),(0,[],0),([],[]),[],[],[]),9)else(J6z (x1.1.2.2.2.1,x1.2)).bind λe=>if neI e.2.2.1 0 then some ((0,0,(0,[],0),(0,[],0),([],[]),[],[],[]),e.2.2.1)else(J4L (x1.1,x1.2.1)).bind λj=>if j.2 then(inb (List.length e.2.2.2) (JI .i64 (J0 e.2.2.2) 1)).bind λ_=>(lat e.2.2.2 (Int.toNat (JI .i64 (J0 e.2.2.2) 1))).bind λg=>(inb (List.length (J0w e.2.2.2 (Int.toNat (JI .i64 (J0 e.2.2.2) 1)) (g.1,true,g.2.2))) (JI .i64 (J0 (J0w e.2.2.2 (Int.toNat (JI .i64 (J0 e.2.2.2) 1)) (g.1,true,g.2.2))) 1)).bind λ_=>(lat (J0w e.2.2.2 (Int.toNat (JI .i64 (J0 e.2.2.2) 1)) (g.1,true,g.2.2)) (Int.toNat (JI .i64 (J0 (J0w e.2.2.2 (Int.toNat (JI .i64 (J0 e.2.2.2) 1)) (g.1,true,g.2.2))) 1))).bind λh=>Jc (Jb2) (0,x1.1,x1.2,(0,0,(0,[],0),(0,[],0),([],[]),[],[],[]),J0w (J0w e.2.2.2 (Int.toNat (JI .i64 (J0 e.2.2.2) 1)) (g.1,true,g.2.2)) (Int.toNat (JI .i64 (J0 (J0w e.2.2.2 (Int.toNat (JI .i64 (J0 e.2.2.2) 1)) (g.1,true,g.2.2))) 1)) (h.1,h.2.1,j.1.2.1,h.2.2.2),e.1,e.2.1,j.1,[])else some ((x1.1.1,x1.1.2.1,x1.1.2.2.1,(e.1,e.2.2.2,e.2.1),x1.1.2.2.2.2),0)else some ((0,0,(0,[],0),(0,[],0),([],[]),[],[],[]),1)
def J4F(x1:JMw):Option (J5d):=(J0D x1.2).bind λj=>if Jr j=false then(J07 x1.2).bind λh=>if Jr h then some ((0,0,Vector.replicate 16 (false,[])),12)else(J2j x1.1).bind λg=>if neI g 0 then some ((0,0,Vector.replicate 16 (false,[])),g)else if neI x1.2.2.2.2.2.2.2.1.1 x1.1.1 then some ((0,0,Vector.replicate 16 (false,[])),6)else if neI x1.2.2.2.2.2.1 x1.1.2.1 then some ((0,0,Vector.replicate 16 (false,[])),13)else(J3V (x1.1,x1.2.2.2.2.2.2.2.1)).bind λe=>if neI e.2 0 then some ((0,0,Vector.replicate 16 (false,[])),e.2)else some ((e.1.1,x1.2.1,e.1.2.2),0)else some ((0,0,Vector.replicate 16 (false,[])),12)
def Je7(x1:Js×(List Js)):Option (List Js):=(JN 128 [x1.1] x1.2).bind λe=>some e
def Jkj:JSS->Option ((JSS)⊕(JDd)):=fun(k,e,j,g,h)=>if gtI g e then(J0N (h,g)).bind λn=>if neI n.2 0 then some (.inr ([],14))else(J07 n.1).bind λq=>if Jr q=false then if neI n.1.2.2.2.2.2.2.1.1 k then some (.inr ([],13))else(Je7 (n.1,j)).bind λo=>some (.inl (k,e,o,n.1.2.2.2.2.1,h))else some (.inr ([],13))else Option.map .inr (if ltI g e then some ([],13)else some (j,0))
def JbU(x1:J04×T_api_Row):Option (JDd):=(J0f x1.1).bind λe=>if Jr e then some ([],26)else if ltI x1.2.1 0=false then if geI x1.2.1 64=false then if ltI x1.2.2.1 0=false then if ltI x1.2.2.2 0 then some ([],1)else Jc (Jkj) (x1.2.1,x1.2.2.2,[],x1.2.2.1,x1.1)else some ([],1)else some ([],1)else some ([],1)
def Jav(x1:Ju6):Option (JDd):=(J0f x1.1).bind λg=>if Jr g then some ([],26)else(J2j x1.2.1).bind λe=>if neI e 0 then some ([],e)else if ltI x1.2.2 0 then some ([],1)else if geI x1.2.1.2.1 x1.2.2 then some ([],0)else(JbU (x1.1,x1.2.1.1,x1.2.2,x1.2.1.2.1)).bind λh=>some h
def Jd7:JSG->Option ((JSG)⊕(JKz)):=fun(e,g,k,h,j)=>if ltI g (J0 e)then(idx e g).bind λo=>(J4F (h,o)).bind λn=>if neI n.2 0 then some (.inr ((0,0,Vector.replicate 16 (false,[])),0,n.2))else some (.inl (e,J2 .i64 g 1,k,n.1,j))else some (.inr (h,J0 e,0))
def J5I(x1:Ju6):Option (JKz):=(Jav x1).bind λe=>if neI e.2 0 then some ((0,0,Vector.replicate 16 (false,[])),0,e.2)else Jc (Jd7) (e.1,0,x1.1,x1.2.1,0,0,Vector.replicate 16 (false,[]))
def J5A(x1:Ju6):Option (J5d):=(J5I x1).bind λe=>some (e.1,e.2.2)
def Jc2(x1:J4A):Option (J4A):=(J0g x1.1).bind λk=>if Jr k then some ((0,[],0),15)else(J1M x1).bind λg=>if ltI g 0 then some ((0,[],0),18)else(idx x1.1.2.1 g).bind λn=>if n.2.1 then some ((0,[],0),23)else(J0Q x1.1.2.1 none (some g)).bind λo=>(J3g 424 o).bind λj=>(J0Q x1.1.2.1 (some (J2 .i64 g 1)) none).bind λh=>(JN 424 j h).bind λe=>if ltI g x1.1.2.2 then if geI (JI .i64 x1.1.2.2 1) (J0 e)then some ((x1.1.1,e,0),0)else some ((x1.1.1,e,JI .i64 x1.1.2.2 1),0)else if geI x1.1.2.2 (J0 e)then some ((x1.1.1,e,0),0)else some ((x1.1.1,e,x1.1.2.2),0)
def JgB(z3:J00×J00):Option ((J00×J00)⊕(JDm)):=(idx z3.1.2.1 z3.1.2.2).bind λj=>if j.2.2.2 then(idx z3.1.2.1 z3.1.2.2).bind λg=>(J2r (z3.1,z3.1.2.2,g.1,g.2.1,g.2.2.1,false)).bind λe=>(Jqg (J2 .i64 e.2.2 1) (J0 e.2.1)).bind λh=>some (.inl ((e.1,e.2.1,h),z3.2))else Option.map .inr ((idx z3.1.2.1 z3.1.2.2).bind λk=>some (z3.1,k.1.1,0))
def J9A(x1:J00):Option (JDm):=(J0g x1).bind λe=>if Jr e then some ((0,[],0),0,15)else if eqI (J0 x1.2.1) 0 then some ((0,[],0),0,18)else Jc (JgB) (x1,0,[],0)
def J5u(x1:J6):Option (J6×Jy×Bool×Int):=(JM x1).bind λk=>if Jr k then some ((0,0,(0,[],0),(0,[],0),([],[]),[],[],[]),(0,0,Vector.replicate 16 (false,[])),false,15)else if ltI (J0 x1.2.2.2.1.2.1) x1.2.2.2.1.1 then some (x1,(0,0,Vector.replicate 16 (false,[])),false,0)else(J9A x1.2.2.2.1).bind λe=>(J1v (e.1,e.2.1)).bind λn=>(idx e.1.2.1 n).bind λg=>if Jr g.2.1 then(Jc2 (e.1,e.2.1)).bind λj=>some ((x1.1,x1.2.1,x1.2.2.1,j.1,x1.2.2.2.2),(0,0,Vector.replicate 16 (false,[])),false,0)else(J2G ((x1.1,x1.2.1,x1.2.2.1,e.1,x1.2.2.2.2),g.1.2.1)).bind λh=>some (h,g.1,true,0)
def Jd5(z2:Jx×Jx):Option ((Jx×Jx)⊕(J42)):=(J5u z2.1.1).bind λe=>if neI e.2.2.2 0 then some (.inr (((0,0,(0,[],0),(0,[],0),([],[]),[],[],[]),[],0,[],false,[]),e.2.2.2))else if Jr e.2.2.1 then some (.inr ((e.1,z2.1.2),0))else(J3Q (z2.1,e.1,e.2.1)).bind λg=>if neI g.2 0 then some (.inr (((0,0,(0,[],0),(0,[],0),([],[]),[],[],[]),[],0,[],false,[]),g.2))else some (.inl (g.1,z2.2))
def J5y(x1:Jx):Option (J42):=Jc (Jd5) (x1,(0,0,(0,[],0),(0,[],0),([],[]),[],[],[]),[],0,[],false,[])
def J2l(x1:J42):Option (J42):=(JM x1.1.1).bind λq=>if Jr q then some (((0,0,(0,[],0),(0,[],0),([],[]),[],[],[]),[],0,[],false,[]),15)else if ltI x1.2 0=false then if geI x1.2 x1.1.1.1 then some (((0,0,(0,[],0),(0,[],0),([],[]),[],[],[]),[],0,[],false,[]),1)else(J1v (x1.1.1.2.2.2.1,x1.2)).bind λo=>if geI o 0 then some (x1.1,0)else(J5y x1.1).bind λe=>if neI e.2 0 then some (((0,0,(0,[],0),(0,[],0),([],[]),[],[],[]),[],0,[],false,[]),e.2)else(J95 (e.1.2,x1.2)).bind λk=>if neI k.2 0 then some (((0,0,(0,[],0),(0,[],0),([],[]),[],[],[]),[],0,[],false,[]),k.2)else(J4q (e.1.1,x1.2)).bind λn=>(J4H (e.1.1.2.2.2.2.2.2.1,x1.2,n,k.1)).bind λg=>if neI g.2 0 then some (((0,0,(0,[],0),(0,[],0),([],[]),[],[],[]),[],0,[],false,[]),g.2)else(J5A (e.1.1.2.2.1,g.1,n)).bind λj=>if neI j.2 0 then some (((0,0,(0,[],0),(0,[],0),([],[]),[],[],[]),[],0,[],false,[]),j.2)else(J4e (e.1.1,j.1)).bind λh=>if neI h.2 0 then some (((0,0,(0,[],0),(0,[],0),([],[]),[],[],[]),[],0,[],false,[]),h.2)else some ((h.1,e.1.2),0)else some (((0,0,(0,[],0),(0,[],0),([],[]),[],[],[]),[],0,[],false,[]),1)
def Jjf:JSP->Option ((JSP)⊕(Jx×Bool×Int)):=fun(g,e,k)=>(idx g 0).bind λn=>(J1k (e.1,n)).bind λh=>if eqI h.2.1 5 then some (.inr (((0,0,(0,[],0),(0,[],0),([],[]),[],[],[]),[],0,[],false,[]),false,h.2.2.2.2.2))else if neI h.2.1 3 then some (.inr ((h.1,e.2),true,0))else(J2l (e,h.2.2.2.1)).bind λj=>if neI j.2 0 then some (.inr (((0,0,(0,[],0),(0,[],0),([],[]),[],[],[]),[],0,[],false,[]),false,j.2))else some (.inl (g,j.1,k))
def Jcb(x1:Jx):Option (Jx×Bool×Int):=(JM x1.1).bind λj=>if Jr j then some (((0,0,(0,[],0),(0,[],0),([],[]),[],[],[]),[],0,[],false,[]),false,15)else if gtI (J0 x1.1.2.2.2.2.2.2.2) 0 then(idx x1.1.2.2.2.2.2.2.2 0).bind λh=>(J2l (x1,h.1)).bind λe=>some (e.1,eqI e.2 0,e.2)else(Jc4 x1.1).bind λg=>if eqI (J0 g) 0 then some (x1,false,0)else Jc (Jjf) (g,x1,(0,0,(0,[],0),(0,[],0),([],[]),[],[],[]),[],0,[],false,[])
def J2M(x1:Int):Option (J0L):=if neI x1 0 then(Jz x1).bind λe=>some e else some (1,0,0,(false,[]),0)
def JeJ:JMA->Option ((JMA)⊕(T_api_Grant×Bool)):=fun(h,e,g,j)=>if ltI e (J0 g.2)then(idx g.2 e).bind λk=>if eqI k.1 h then(idx g.2 e).bind λn=>some (.inr (n,true))else some (.inl (h,J2 .i64 e 1,g,j))else some (.inr ((0,(0,0),0),false))
def J3G(x1:JaK):Option (T_api_Grant×Bool):=(J1s x1.1).bind λe=>if e then Jc (JeJ) (x1.2,0,x1.1,0,(0,0),0)else some ((0,(0,0),0),false)
def JxB:JLj->Option ((JLj)⊕(List Int)):=fun(e,h,k,g,j)=>if ltI g (J0 e)then if Jr k then(idx e g).bind λz=>if geI z h then(JN 8 j [h]).bind λw=>(idx e g).bind λC=>if neI C h then(idx e g).bind λy=>(JN 8 w [y]).bind λx=>some (.inl (e,h,true,J2 .i64 g 1,x))else some (.inl (e,h,true,J2 .i64 g 1,w))else(idx e g).bind λB=>if neI B h then(idx e g).bind λA=>(JN 8 j [A]).bind λn=>some (.inl (e,h,k,J2 .i64 g 1,n))else some (.inl (e,h,k,J2 .i64 g 1,j))else(idx e g).bind λr=>if neI r h then(idx e g).bind λq=>(JN 8 j [q]).bind λv=>some (.inl (e,h,k,J2 .i64 g 1,v))else some (.inl (e,h,k,J2 .i64 g 1,j))else Option.map .inr (if Jr k then(JN 8 j [h]).bind λo=>some o else some j)
def J77(x1:Jdn):Option (List Int):=Jc (JxB) (x1.1,x1.2,false,0,[])
def Jo6:JMs->Option ((JMs)⊕(List Int)):=fun(k,h,g,e,j)=>if ltI g (J0 e.2)then(idx e.2 g).bind λv=>if neI v.1 k then(idx e.2 g).bind λn=>(J2g (n,j)).bind λo=>if o then(idx e.2 g).bind λr=>(J77 (h,r.1)).bind λq=>some (.inl (k,q,J2 .i64 g 1,e,j))else some (.inl (k,h,J2 .i64 g 1,e,j))else some (.inr h)else some (.inr h)
def JmJ:JMs->Option ((JMs)⊕(List Int)):=fun(k,j,g,e,h)=>if ltI g (J0 e.1)then(idx e.1 g).bind λq=>(J2g (q,h)).bind λr=>if r then(idx e.1 g).bind λo=>(J77 (j,o.1)).bind λn=>some (.inl (k,n,J2 .i64 g 1,e,h))else some (.inl (k,j,J2 .i64 g 1,e,h))else Option.map .inr (Jc (Jo6) (k,j,0,e,h))
def J89(x1:JaK):Option (List Int):=(J3G x1).bind λe=>if Jr e.2 then some []else Jc (JmJ) (x1.2,[],0,x1.1,e.1)
def JeH:JRx->Option ((JRx)⊕(Int×JA×Bool)):=fun(g,j,e,h,n,k)=>if ltI e j then(idx g e).bind λo=>(J71 (h,o)).bind λq=>if q.2 then some (.inr (o,k.2.1,true))else some (.inl (g,j,J2 .i64 e 1,h,n,k))else some (.inr (0,(0,0),false))
def J8u(x1:J1l):Option (Int×JA×Bool):=(J3G (x1.1.2.2.2.2.1,x1.2)).bind λg=>if Jr g.2 then some (0,(0,0),false)else(J89 (x1.1.2.2.2.2.1,x1.2)).bind λe=>Jc (JeH) (e,J0 e,0,x1.1,(0,0),g.1)
def Jil:Int×JX×T_api_Grant->Option ((Int×JX×T_api_Grant)⊕Int):=fun(g,e,h)=>if ltI g (J0 e.2)then(idx e.2 g).bind λj=>if eqT JY j.2.1 h.2.1 then(J33 (e,j.1,j.2.1)).bind λk=>if eqI k 0 then some (.inr g)else some (.inl (J2 .i64 g 1,e,h))else some (.inl (J2 .i64 g 1,e,h))else some (.inr (J0 e.2))
def J82(x1:JDq):Option (Int):=(J33 (x1.1,x1.2.1,x1.2.2.1)).bind λe=>if eqI e 0 then some (J0 x1.1.2)else Jc (Jil) (0,x1)
def J8o(x1:JDq):Option (JX×Bool×Int):=(J1s x1.1).bind λG=>if Jr G then some (([],[]),false,17)else(J60 x1.2).bind λC=>if Jr C then some (([],[]),false,1)else(J3G (x1.1,x1.2.1)).bind λe=>if e.2 then if Jr (eqT J5 e.1 x1.2)then some (([],[]),false,15)else if e.2 then some (x1.1,false,0)else(J33 (x1.1,x1.2.1,x1.2.2.1)).bind λE=>if geI E x1.2.2.2 then some (x1.1,true,0)else if eqI (J2 .i64 (J0 x1.1.1) (J0 x1.1.2)) 1024 then some (([],[]),false,21)else(J82 x1).bind λv=>(J0Q x1.1.2 none (some v)).bind λB=>(J3g 32 B).bind λD=>(JN 32 D [x1.2]).bind λF=>(J0Q x1.1.2 (some v) none).bind λk=>(JN 32 F k).bind λA=>(J3n (x1.1.1,A)).bind λj=>(J33 (j,x1.2.1,x1.2.2.1)).bind λn=>some (j,geI n x1.2.2.2,0)else if e.2 then some (x1.1,false,0)else(J33 (x1.1,x1.2.1,x1.2.2.1)).bind λx=>if geI x x1.2.2.2 then some (x1.1,true,0)else if eqI (J2 .i64 (J0 x1.1.1) (J0 x1.1.2)) 1024 then some (([],[]),false,21)else(J82 x1).bind λh=>(J0Q x1.1.2 none (some h)).bind λy=>(J3g 32 y).bind λo=>(JN 32 o [x1.2]).bind λq=>(J0Q x1.1.2 (some h) none).bind λw=>(JN 32 q w).bind λr=>(J3n (x1.1.1,r)).bind λg=>(J33 (g,x1.2.1,x1.2.2.1)).bind λz=>some (g,geI z x1.2.2.2,0)
def Jem:(List Int)×Int×JX->Option (((List Int)×Int×JX)⊕(List Int)):=fun(h,e,g)=>if ltI e (J0 g.2)then(idx g.2 e).bind λj=>(J77 (h,j.1)).bind λk=>some (.inl (k,J2 .i64 e 1,g))else some (.inr h)
def J8A(x1:JX):Option (List Int):=(J1s x1).bind λe=>if e then Jc (Jem) ([],0,x1)else some []
def JfF:JRs->Option ((JRs)⊕(List Int)):=fun(e,j,h,g,k)=>if ltI g h then(idx j g).bind λo=>(idx e 0).bind λn=>if eqI o n then some (.inr e)else some (.inl (e,j,h,J2 .i64 g 1,k))else some (.inr [])
def JfA(y:(JEi)->Option (List Int)):JPt->Option ((JPt)⊕((JKJ)⊕(List Int))):=fun(g,h,j,w,k,q,n,r,v,o,e)=>if ltI o v then(idx r o).bind λz=>if w=false then some (.inl (g,h,j,eqI j z,k,q,n,r,v,J2 .i64 o 1,e))else some (.inl (g,h,j,true,k,q,n,r,v,J2 .i64 o 1,e))else Option.map .inr (if w then some (.inl (g,h,k,q,J2 .i64 n 1,e))else(J3g 8 g).bind λB=>(JN 8 B [j]).bind λA=>(y (e,A,h)).bind λx=>if gtI (J0 x) 0 then some (.inr x)else some (.inl (g,h,k,q,J2 .i64 n 1,e)))
def JgD(o:(JEi)->Option (List Int)):JKJ->Option ((JKJ)⊕(List Int)):=fun(g,k,j,h,e,n)=>if ltI e h then(idx j e).bind λq=>Jc (JfA o) (g,k,q,false,j,h,e,g,J0 g,0,n)else some (.inr [])
def J5l(g:(JEi)->Option (List Int))(x1:JEi):Option (List Int):=(idx x1.2.1 (JI .i64 (J0 x1.2.1) 1)).bind λh=>(J89 (x1.1,h)).bind λe=>if eqI (J0 x1.2.1) x1.2.2 then Jc (JfF) (x1.2.1,e,J0 e,0,x1.1)else Jc (JgD g) (x1.2.1,x1.2.2,e,J0 e,0,x1.1)
def Jk9:(JEi)->Option (List Int):=JiD J5l 1100
def JgT:Jdg->Option ((Jdg)⊕(List Int)):=fun(h,g,e)=>(J8A e).bind λk=>if leI g (J0 k)then(Jk9 (e,[h],g)).bind λj=>if gtI (J0 j) 0 then some (.inr j)else some (.inl (h,J2 .i64 g 1,e))else some (.inr [])
def JaB(x1:JaK):Option (List Int):=Jc (JgT) (x1.2,1,x1.1)
def J3q(x1:J2x):Option (JA):=(J12 x1.1).bind λg=>if Jr g then some (0,15)else(J1w x1).bind λe=>if ltI e 0 then some (0,16)else(idx x1.1 e).bind λh=>if neI h.2.1 1 then some (0,15)else some (e,0)
def J91(x1:JyI):Option (J2x):=(J3q (x1.1,x1.2.1)).bind λg=>if neI g.2 0 then some ([],g.2)else(idx x1.1 g.1).bind λe=>if ltI x1.2.2 0=false then if geI x1.2.2 (J0 e.2.2.2.2.2)then some ([],19)else(J0Q e.2.2.2.2.2 none (some (J2 .i64 x1.2.2 1))).bind λn=>(J3g 8 n).bind λh=>(inb (List.length h) x1.2.2).bind λ_=>(lat h (Int.toNat x1.2.2)).bind λj=>(J2o (e.1,2,e.2.2.1,j,e.2.2.2.2.1,h)).bind λo=>(J2Z (x1.1,g.1,o)).bind λk=>some (k,0)else some ([],19)
def J8W(x1:J2x):Option (J2x):=(J3q x1).bind λg=>if neI g.2 0 then some ([],g.2)else(idx x1.1 g.1).bind λe=>if eqI (J0 e.2.2.2.2.2) 8 then some ([],21)else(J3g 8 e.2.2.2.2.2).bind λj=>(JN 8 j [e.2.2.1]).bind λk=>(J2Z (x1.1,g.1,e.1,e.2.1,e.2.2.1,e.2.2.2.1,e.2.2.2.2.1,k)).bind λh=>some (h,0)
def Jar(x1:List Int):Option (Int):=if eqI (J0 x1) 0 then some 0 else(idx x1 0).bind λe=>some e
def Jdw(x1:J1l):Option (Int):=(J89 (x1.1.2.2.2.2.1,x1.2)).bind λg=>(Jar g).bind λe=>some e
def Jdl(x1:J4A):Option (J00):=(J1v x1).bind λg=>if ltI g 0 then some x1.1 else(idx x1.1.2.1 g).bind λe=>(J2r (x1.1,g,e.1,e.2.1,e.2.2.1,true)).bind λh=>some h
def J49(x1:JfS):Option (J7z):=(J32 (x1.1.2.2.2.1,x1.2.2.2.1)).bind λg=>if Jr g.2 then some (x1.1,3,0,x1.2.2.2.1,(false,[]),0)else if eqI x1.2.2.1 1 then(Jdl (x1.1.2.2.2.1,x1.2.2.2.1)).bind λn=>(inb 16 x1.2.2.2.2.1).bind λ_=>(vat g.1.2.2 (Int.toNat x1.2.2.2.2.1)).bind λq=>some ((x1.1.1,x1.1.2.1,x1.1.2.2.1,n,x1.1.2.2.2.2),1,0,0,q,0)else(inb 16 x1.2.2.2.2.1).bind λ_=>(vat g.1.2.2 (Int.toNat x1.2.2.2.2.1)).bind λj=>if eqI x1.2.2.1 2 then(J8d (x1.1,0,1,x1.2.1,0,0,0,(x1.2.2.2.1,x1.2.2.2.2.1,j,true,x1.2.2.2.2.2),[])).bind λh=>if neI h.2 0 then(Jz h.2).bind λo=>some (x1.1,o)else some (h.1,1,0,0,(false,[]),0)else(J8d (x1.1,0,1,x1.2.1,0,0,0,(x1.2.2.2.1,x1.2.2.2.2.1,j,false,[]),[])).bind λe=>if neI e.2 0 then(Jz e.2).bind λk=>some (x1.1,k)else some (e.1,1,0,0,(false,[]),0)
def J4i(x1:J1l):Option (J7z):=(J0R (x1.1.2.2.2.2.2.1,x1.2)).bind λk=>(idx x1.1.2.2.2.2.2.1 k).bind λj=>if eqI j.2.2.1 0 then(J5k (x1.1.2.2.2.2.2.1,x1.2)).bind λo=>(J3J (x1.1.2.2.2.2.1,x1.2)).bind λq=>some ((x1.1.1,x1.1.2.1,x1.1.2.2.1,x1.1.2.2.2.1,q,o,x1.1.2.2.2.2.2.2),1,0,0,(false,[]),0)else(J1m (x1.1,0,3,x1.2,0,0,0,(0,0,(false,[]),false,[]),[])).bind λg=>if neI g.2.2 0 then(Jz g.2.2).bind λh=>some (x1.1,h)else(J2G (g.1,g.2.1)).bind λe=>(J3J (e.2.2.2.2.1,x1.2)).bind λn=>some ((e.1,e.2.1,e.2.2.1,e.2.2.2.1,n,e.2.2.2.2.2),1,0,0,(false,[]),0)
def J9D(x1:JaK):Option (JX):=(J1s x1.1).bind λg=>if Jr g then some x1.1 else(J5K (x1.1.2,x1.2,false,0,0)).bind λe=>(J3n (x1.1.1,e)).bind λh=>some h
def JeA:JT4->Option ((JT4)⊕Bool):=fun(e,j,g,h)=>if ltI e (J0 h.2.2.2.2.1)then(idx h.2.2.2.2.1 e).bind λn=>(J0N (j.2.2.1,n)).bind λk=>if eqI k.2 0 then if eqI k.1.2.2.2.2.2.2.1.1 g.1 then if eqI k.1.2.2.2.2.2.2.1.2.1 g.2 then some (.inr true)else some (.inl (J2 .i64 e 1,j,g,h))else some (.inl (J2 .i64 e 1,j,g,h))else some (.inl (J2 .i64 e 1,j,g,h))else some (.inr false)
def J8s(x1:JrT):Option (Bool):=(J0R (x1.1.2.2.2.2.2.1,x1.2.1)).bind λg=>(idx x1.1.2.2.2.2.2.1 g).bind λe=>Jc (JeA) (0,x1.1,x1.2.2,e)
def Jcx:JSw->Option ((JSw)⊕(J7z)):=fun(j,k,h,g,n,q,o,e)=>if ltI g (J0 h)then(idx h g).bind λr=>if eqI r.1 j then(idx h g).bind λx=>(J8s (e,j,x.2.1)).bind λw=>if Jr w then(idx h g).bind λy=>(J8T (e.2.2.2.2.1,j,y.2.1)).bind λv=>some (.inl (j,k,h,J2 .i64 g 1,n,q,o,e.1,e.2.1,e.2.2.1,e.2.2.2.1,v,e.2.2.2.2.2))else some (.inl (j,k,h,J2 .i64 g 1,n,q,o,e))else some (.inl (j,k,h,J2 .i64 g 1,n,q,o,e))else some (.inr (e,k,0,0,(false,[]),0))
def J3W(x1:Jg1):Option (J7z):=(J9D (x1.1.2.2.2.2.1,x1.2.1)).bind λg=>(J0R (x1.1.2.2.2.2.2.1,x1.2.1)).bind λj=>(idx x1.1.2.2.2.2.2.1 j).bind λn=>if eqI n.2.2.1 0 then(J5k (x1.1.2.2.2.2.2.1,x1.2.1)).bind λo=>(J3J (g,x1.2.1)).bind λh=>some ((x1.1.1,x1.1.2.1,x1.1.2.2.1,x1.1.2.2.2.1,h,o,x1.1.2.2.2.2.2.2),x1.2.2,0,0,(false,[]),0)else(J1m ((x1.1.1,x1.1.2.1,x1.1.2.2.1,x1.1.2.2.2.1,g,x1.1.2.2.2.2.2),0,4,x1.2.1,0,0,0,(0,0,(false,[]),false,[]),[])).bind λe=>if neI e.2.2 0 then(Jz e.2.2).bind λk=>some (x1.1,k)else Jc (Jcx) (x1.2.1,x1.2.2,e.1.2.2.2.2.1.1,0,x1.1,(0,0,(0,[],0),(0,[],0),([],[]),[],[],[]),(0,0,0,(false,[]),0),e.1)
def J8K(x1:Int×J3A):Option (T_api_Grant×Bool):=if eqI x1.2.1 1 then some ((x1.1,(x1.2.2.1,x1.2.2.2.1),1),true)else if eqI x1.2.1 2 then some ((x1.1,(x1.2.2.1,x1.2.2.2.1),2),true)else if eqI x1.2.1 3 then some ((x1.1,(x1.2.2.1,x1.2.2.2.1),2),true)else some ((0,(0,0),0),false)
def J5i(x1:J6×J3A):Option (Int):=if eqI x1.2.1 1 then if ltI x1.2.2.1 0=false then if geI x1.2.2.1 x1.1.1=false then if ltI x1.2.2.2.1 0=false then if geI x1.2.2.2.1 16 then some 1 else if eqI x1.2.1 2 then if Jr (eqT J0o x1.2 x1.2)then some 1 else if gtI (J0 x1.2.2.2.2) 12 then some 22 else some 0 else if Jr (eqT J0o x1.2 (x1.2.1,x1.2.2.1,x1.2.2.2.1,[]))then some 1 else if gtI (J0 x1.2.2.2.2) 12 then some 22 else some 0 else some 1 else some 1 else some 1 else if eqI x1.2.1 2 then if ltI x1.2.2.1 0=false then if geI x1.2.2.1 x1.1.1=false then if ltI x1.2.2.2.1 0=false then if geI x1.2.2.2.1 16 then some 1 else if eqI x1.2.1 2 then if Jr (eqT J0o x1.2 x1.2)then some 1 else if gtI (J0 x1.2.2.2.2) 12 then some 22 else some 0 else if Jr (eqT J0o x1.2 (x1.2.1,x1.2.2.1,x1.2.2.2.1,[]))then some 1 else if gtI (J0 x1.2.2.2.2) 12 then some 22 else some 0 else some 1 else some 1 else some 1 else if eqI x1.2.1 3 then if ltI x1.2.2.1 0=false then if geI x1.2.2.1 x1.1.1=false then if ltI x1.2.2.2.1 0=false then if geI x1.2.2.2.1 16 then some 1 else if eqI x1.2.1 2 then if Jr (eqT J0o x1.2 x1.2)then some 1 else if gtI (J0 x1.2.2.2.2) 12 then some 22 else some 0 else if Jr (eqT J0o x1.2 (x1.2.1,x1.2.2.1,x1.2.2.2.1,[]))then some 1 else if gtI (J0 x1.2.2.2.2) 12 then some 22 else some 0 else some 1 else some 1 else some 1 else if eqI x1.2.1 7 then if ltI x1.2.2.2.1 0=false then if geI x1.2.2.2.1 8 then some 1 else if Jr (eqT J0o x1.2 (x1.2.1,0,x1.2.2.2.1,[]))then some 1 else if gtI (J0 x1.2.2.2.2) 12 then some 22 else some 0 else some 1 else if eqI x1.2.1 4 then if Jr (eqT J0o x1.2 (x1.2.1,0,0,[]))then some 1 else if gtI (J0 x1.2.2.2.2) 12 then some 22 else some 0 else if eqI x1.2.1 5 then if Jr (eqT J0o x1.2 (x1.2.1,0,0,[]))then some 1 else if gtI (J0 x1.2.2.2.2) 12 then some 22 else some 0 else if eqI x1.2.1 6 then if Jr (eqT J0o x1.2 (x1.2.1,0,0,[]))then some 1 else if gtI (J0 x1.2.2.2.2) 12 then some 22 else some 0 else some 1
def J2y(x1:JfS):Option (Int):=(JM x1.1).bind λk=>if Jr k then some 15 else(J0R (x1.1.2.2.2.2.2.1,x1.2.1)).bind λh=>if ltI h 0 then some 16 else(idx x1.1.2.2.2.2.2.1 h).bind λn=>if neI n.2.1 1 then some 15 else(J5i (x1.1,x1.2.2)).bind λj=>if neI j 0 then some j else(J3G (x1.1.2.2.2.2.1,x1.2.1)).bind λg=>(J8K x1.2).bind λe=>if g.2 then if neI x1.2.2.1 5 then if Jr e.2=false then if Jr (eqT J5 e.1 g.1)then some 15 else some 0 else some 15 else some 0 else some 0
def J7D(x1:JfS):Option (J7z):=(J2y x1).bind λz=>if neI z 0 then(Jz z).bind λA=>some (x1.1,A)else if eqI x1.2.2.1 4 then(J4i (x1.1,x1.2.1)).bind λE=>some E else if eqI x1.2.2.1 5 then(J3W (x1.1,x1.2.1,1)).bind λC=>some C else if eqI x1.2.2.1 6 then(J8W (x1.1.2.2.2.2.2.1,x1.2.1)).bind λo=>if eqI x1.2.2.1 7 then(J91 (x1.1.2.2.2.2.2.1,x1.2.1,x1.2.2.2.2.1)).bind λn=>if neI n.2 0 then(Jz n.2).bind λB=>some (x1.1,B)else some ((x1.1.1,x1.1.2.1,x1.1.2.2.1,x1.1.2.2.2.1,x1.1.2.2.2.2.1,n.1,x1.1.2.2.2.2.2.2),1,0,0,(false,[]),0)else if neI o.2 0 then(Jz o.2).bind λD=>some (x1.1,D)else some ((x1.1.1,x1.1.2.1,x1.1.2.2.1,x1.1.2.2.2.1,x1.1.2.2.2.2.1,o.1,x1.1.2.2.2.2.2.2),1,0,0,(false,[]),0)else if eqI x1.2.2.1 7 then(J8W (x1.1.2.2.2.2.2.1,x1.2.1)).bind λg=>if eqI x1.2.2.1 7 then(J91 (x1.1.2.2.2.2.2.1,x1.2.1,x1.2.2.2.2.1)).bind λk=>if neI k.2 0 then(Jz k.2).bind λy=>some (x1.1,y)else some ((x1.1.1,x1.1.2.1,x1.1.2.2.1,x1.1.2.2.2.1,x1.1.2.2.2.2.1,k.1,x1.1.2.2.2.2.2.2),1,0,0,(false,[]),0)else if neI g.2 0 then(Jz g.2).bind λq=>some (x1.1,q)else some ((x1.1.1,x1.1.2.1,x1.1.2.2.1,x1.1.2.2.2.1,x1.1.2.2.2.2.1,g.1,x1.1.2.2.2.2.2.2),1,0,0,(false,[]),0)else(J8K x1.2).bind λw=>(J8o (x1.1.2.2.2.2.1,w.1)).bind λe=>if neI e.2.2 0 then(Jz e.2.2).bind λx=>some (x1.1,x)else if e.2.1 then(J49 ((x1.1.1,x1.1.2.1,x1.1.2.2.1,x1.1.2.2.2.1,e.1,x1.1.2.2.2.2.2),x1.2)).bind λh=>if eqI h.2.1 5 then some (x1.1,h.2)else some h else(JaB (e.1,x1.2.1)).bind λr=>if gtI (J0 r) 0 then(J3W ((x1.1.1,x1.1.2.1,x1.1.2.2.1,x1.1.2.2.2.1,e.1,x1.1.2.2.2.2.2),x1.2.1,4)).bind λj=>if eqI j.2.1 5 then some (x1.1,j.2)else some j else(Jdw ((x1.1.1,x1.1.2.1,x1.1.2.2.1,x1.1.2.2.2.1,e.1,x1.1.2.2.2.2.2),x1.2.1)).bind λv=>some ((x1.1.1,x1.1.2.1,x1.1.2.2.1,x1.1.2.2.2.1,e.1,x1.1.2.2.2.2.2),2,v,0,(false,[]),0)
def J2U(x1:J42):Option (Bool):=(J0R (x1.1.1.2.2.2.2.2.1,x1.2)).bind λe=>if geI e 0 then(idx x1.1.1.2.2.2.2.2.1 e).bind λg=>some (neI g.2.1 1)else some false
def JdY:Int×Jx×Jx->Option ((Int×Jx×Jx)⊕(J42)):=fun(g,e,j)=>(J2U (e,g)).bind λn=>if n then(J1k (e.1,g)).bind λh=>if eqI h.2.1 5 then some (.inr (((0,0,(0,[],0),(0,[],0),([],[]),[],[],[]),[],0,[],false,[]),h.2.2.2.2.2))else if eqI h.2.1 3 then(J2l (e,h.2.2.2.1)).bind λk=>if neI k.2 0 then some (.inr (((0,0,(0,[],0),(0,[],0),([],[]),[],[],[]),[],0,[],false,[]),k.2))else some (.inl (g,k.1,j))else some (.inl (g,(h.1,e.2),j))else some (.inr (e,0))
def J3h(x1:J42):Option (J42):=(JM x1.1.1).bind λg=>if Jr g then some (((0,0,(0,[],0),(0,[],0),([],[]),[],[],[]),[],0,[],false,[]),15)else(J0R (x1.1.1.2.2.2.2.2.1,x1.2)).bind λe=>if ltI e 0 then some (((0,0,(0,[],0),(0,[],0),([],[]),[],[],[]),[],0,[],false,[]),16)else Jc (JdY) (x1.2,x1.1,(0,0,(0,[],0),(0,[],0),([],[]),[],[],[]),[],0,[],false,[])
def Jpk:TQ23->Option ((TQ23)⊕(TQ91)):=fun(h,e,j,r,q)=>(J7D (e.1,h,j)).bind λg=>if eqI g.2.1 3 then(J2l ((g.1,e.2),g.2.2.2.1)).bind λv=>if neI v.2 0 then(Jz v.2).bind λC=>some (.inr ((g.1,e.2),C))else some (.inl (h,v.1,j,r,q))else if eqI g.2.1 4=false then if eqI g.2.1 1 then if eqI j.1 5=false then if eqI j.1 7 then(J2U ((g.1,e.2),h)).bind λz=>if z then(J3h ((g.1,e.2),h)).bind λo=>if neI o.2 0 then(Jz o.2).bind λB=>some (.inr ((g.1,e.2),B))else some (.inr (o.1,g.2))else some (.inr ((g.1,e.2),g.2))else some (.inr ((g.1,e.2),g.2))else(J2U ((g.1,e.2),h)).bind λA=>if A then(J3h ((g.1,e.2),h)).bind λk=>if neI k.2 0 then(Jz k.2).bind λy=>some (.inr ((g.1,e.2),y))else some (.inr (k.1,g.2))else some (.inr ((g.1,e.2),g.2))else some (.inr ((g.1,e.2),g.2))else(J2U ((g.1,e.2),h)).bind λx=>if x then(J3h ((g.1,e.2),h)).bind λn=>if neI n.2 0 then(Jz n.2).bind λw=>some (.inr ((g.1,e.2),w))else some (.inr (n.1,g.2))else some (.inr ((g.1,e.2),g.2))
def JeS(x1:JM6):Option (TQ91):=Jc (Jpk) (x1.2.1,x1.1,x1.2.2,((0,0,(0,[],0),(0,[],0),([],[]),[],[],[]),[],0,[],false,[]),0,0,0,(false,[]),0)
def J2D(x1:JrT):Option (J7z):=(J1g (x1.1,x1.2.1)).bind λe=>if neI e.2 0 then(Jz e.2).bind λj=>some (x1.1,j)else if neI e.1.2.1 3 then(Jz 15).bind λk=>some (x1.1,k)else(J2N x1).bind λg=>if Jr g.2 then some (x1.1,1,0,0,(false,[]),0)else(J2i (x1.1,e.1,g.1)).bind λh=>some h
def Jla:JT6->Option ((JT6)⊕(Jv3)):=fun(h,g,e,j,n)=>(J2D (e.1,h,j)).bind λk=>if eqI k.2.1 5 then some (.inr (e,g,k.2.2.2.2.2))else if eqI k.2.1 3 then(J2l (e,k.2.2.2.1)).bind λo=>if neI o.2 0 then some (.inr (e,g,o.2))else some (.inl (h,g,o.1,j,n))else if eqI k.2.2.1 0 then some (.inr (e,g,0))else some (.inl (h,J2 .i64 g 1,(k.1,e.2),j,n))
def Jcr(x1:JDs):Option (Jv3):=Jc (Jla) (x1.2.1,0,x1.1,x1.2.2,(0,0,(0,[],0),(0,[],0),([],[]),[],[],[]),[],0,[],false,[])
def Jpy(z2:TQ23):Option ((TQ23)⊕(TQ91)):=(JeS (z2.2.1,z2.1,z2.2.2.1)).bind λe=>if neI e.2.1 2 then some (.inr e)else(J8u (e.1.1,z2.1)).bind λh=>if Jr h.2.2 then some (.inr e)else(Jcr (e.1,h.1,h.2.1)).bind λg=>if neI g.2.2 0 then(Jz g.2.2).bind λj=>some (.inr (g.1,j))else if eqI g.2.1 0 then some (.inr (g.1,e.2))else some (.inl (z2.1,g.1,z2.2.2))
def Jf6(x1:JM6):Option (TQ91):=Jc (Jpy) (x1.2.1,x1.1,x1.2.2,((0,0,(0,[],0),(0,[],0),([],[]),[],[],[]),[],0,[],false,[]),0,0,0,(false,[]),0)
def J53(x1:TQ4):Option (TQ3):=if ltI x1.1.2.1 1=false then if gtI x1.1.2.1 (J0 x1.2.2.2.2.2.2.2.2.2.2.2.2.2.2.2.2.2.2.2.2.1)=false then(inb (List.length x1.2.2.2.2.2.2.2.2.2.2.2.2.2.2.2.2.2.2.2.2.1) (JI .i64 x1.1.2.1 1)).bind λ_=>(lat x1.2.2.2.2.2.2.2.2.2.2.2.2.2.2.2.2.2.2.2.2.1 (Int.toNat (JI .i64 x1.1.2.1 1))).bind λk=>if eqI k 0 then(Jz 16).bind λo=>some (o,x1.2)else(inb (List.length x1.2.2.2.2.2.2.2.2.2.2.2.2.2.2.2.2.2.2.2.2.1) (JI .i64 x1.1.2.1 1)).bind λ_=>(lat x1.2.2.2.2.2.2.2.2.2.2.2.2.2.2.2.2.2.2.2.2.1 (Int.toNat (JI .i64 x1.1.2.1 1))).bind λg=>(Jf6 (((x1.2.1,x1.2.2.1,(x1.2.2.2.1,x1.2.2.2.2.1,x1.2.2.2.2.2.1),(x1.2.2.2.2.2.2.1,x1.2.2.2.2.2.2.2.1,x1.2.2.2.2.2.2.2.2.1),(x1.2.2.2.2.2.2.2.2.2.1,x1.2.2.2.2.2.2.2.2.2.2.1),x1.2.2.2.2.2.2.2.2.2.2.2.1,x1.2.2.2.2.2.2.2.2.2.2.2.2.1,x1.2.2.2.2.2.2.2.2.2.2.2.2.2.1),x1.2.2.2.2.2.2.2.2.2.2.2.2.2.2.1,x1.2.2.2.2.2.2.2.2.2.2.2.2.2.2.2.1,x1.2.2.2.2.2.2.2.2.2.2.2.2.2.2.2.2.1,x1.2.2.2.2.2.2.2.2.2.2.2.2.2.2.2.2.2.1,x1.2.2.2.2.2.2.2.2.2.2.2.2.2.2.2.2.2.2.1),g,x1.1.2.2.2.2.2)).bind λe=>if eqI e.2.1 5 then some (e.2,x1.2)else if eqI e.2.1 1 then if eqI x1.1.2.2.2.2.2.1 1 then(J5C e.1.1.2.2.1).bind λq=>(JN 56 x1.2.2.2.2.2.2.2.2.2.2.2.2.2.2.2.2.2.2.2.2.2 [(g,x1.1.2.2.2.2.2.2.1,x1.1.2.2.2.2.2.2.2.1,q,e.2.2.2.2.1)]).bind λn=>some (e.2,e.1.1.1,e.1.1.2.1,e.1.1.2.2.1.1,e.1.1.2.2.1.2.1,e.1.1.2.2.1.2.2,e.1.1.2.2.2.1.1,e.1.1.2.2.2.1.2.1,e.1.1.2.2.2.1.2.2,e.1.1.2.2.2.2.1.1,e.1.1.2.2.2.2.1.2,e.1.1.2.2.2.2.2.1,e.1.1.2.2.2.2.2.2.1,e.1.1.2.2.2.2.2.2.2,e.1.2.1,e.1.2.2.1,e.1.2.2.2.1,e.1.2.2.2.2.1,e.1.2.2.2.2.2,x1.2.2.2.2.2.2.2.2.2.2.2.2.2.2.2.2.2.2.2.1,x1.2.2.2.2.2.2.2.2.2.2.2.2.2.2.2.2.2.2.2.2.1,n)else some (e.2,e.1.1.1,e.1.1.2.1,e.1.1.2.2.1.1,e.1.1.2.2.1.2.1,e.1.1.2.2.1.2.2,e.1.1.2.2.2.1.1,e.1.1.2.2.2.1.2.1,e.1.1.2.2.2.1.2.2,e.1.1.2.2.2.2.1.1,e.1.1.2.2.2.2.1.2,e.1.1.2.2.2.2.2.1,e.1.1.2.2.2.2.2.2.1,e.1.1.2.2.2.2.2.2.2,e.1.2.1,e.1.2.2.1,e.1.2.2.2.1,e.1.2.2.2.2.1,e.1.2.2.2.2.2,x1.2.2.2.2.2.2.2.2.2.2.2.2.2.2.2.2.2.2.2)else some (e.2,e.1.1.1,e.1.1.2.1,e.1.1.2.2.1.1,e.1.1.2.2.1.2.1,e.1.1.2.2.1.2.2,e.1.1.2.2.2.1.1,e.1.1.2.2.2.1.2.1,e.1.1.2.2.2.1.2.2,e.1.1.2.2.2.2.1.1,e.1.1.2.2.2.2.1.2,e.1.1.2.2.2.2.2.1,e.1.1.2.2.2.2.2.2.1,e.1.1.2.2.2.2.2.2.2,e.1.2.1,e.1.2.2.1,e.1.2.2.2.1,e.1.2.2.2.2.1,e.1.2.2.2.2.2,x1.2.2.2.2.2.2.2.2.2.2.2.2.2.2.2.2.2.2.2)else(Jz 16).bind λh=>some (h,x1.2)else(Jz 16).bind λj=>some (j,x1.2)
def JbK(x1:J0i×Int×(List UInt8)×Int):Option (J6X):=(J2q (x1.1,x1.2.1)).bind λh=>if neI h 0 then some (([],0,[],false,[]),h)else if ltI x1.2.2.2 0=false then if gtI x1.2.2.2 256 then some (([],0,[],false,[]),1)else if neI (J0 x1.2.2.1) 256 then some (([],0,[],false,[]),2)else(J8F x1.1).bind λg=>(J1F (g.1,g.2.1,g.2.2.1,x1.2.1,x1.2.2.1,x1.2.2.2,g.2.2.2)).bind λe=>some ((e.2.2.2.1,e.1,e.2.1,e.2.2.1,e.2.2.2.2),0)else some (([],0,[],false,[]),1)
def J84(x1:List UInt8):Option (List UInt8):=if gtI (J0 x1) 8392 then some []else(JR ([],J0 x1,4)).bind λg=>(J3Y g x1).bind λe=>(J6J e).bind λh=>(JR (e,cvI .i64 h,4)).bind λj=>some j
def J93(x1:(List UInt8)×J1y):Option (List UInt8):=if Jr x1.2.1 then(JR (x1.1,255,1)).bind λg=>some g else(JR (x1.1,J0 x1.2.2,1)).bind λe=>(J3Y e x1.2.2).bind λh=>some h
def J9x(x1:Js):Option (J2A):=(J0D x1).bind λv=>if Jr v then some ([],12)else(JR ([],x1.1,8)).bind λq=>(JR (q,x1.2.1,1)).bind λx=>(JR (x,x1.2.2.1,4)).bind λy=>(JR (y,x1.2.2.2.1,8)).bind λo=>(JR (o,x1.2.2.2.2.1,8)).bind λn=>(JR (n,x1.2.2.2.2.2.1,8)).bind λw=>(JR (w,x1.2.2.2.2.2.2.1.1,4)).bind λr=>(JR (r,x1.2.2.2.2.2.2.1.2.1,1)).bind λe=>(J93 (e,x1.2.2.2.2.2.2.1.2.2.1)).bind λj=>(J93 (j,x1.2.2.2.2.2.2.1.2.2.2)).bind λh=>(JR (h,J0 x1.2.2.2.2.2.2.2,4)).bind λk=>(J3Y k x1.2.2.2.2.2.2.2).bind λg=>some (g,0)
def J81(x1:Js):Option (List UInt8):=(J9x x1).bind λg=>(J84 g.1).bind λe=>some e
def JbJ(x1:Int):Option (List UInt8):=(JR ([80,77,76,71],x1,8)).bind λg=>(J84 g).bind λe=>some e
def JgX:JRW->Option ((JRW)⊕(List UInt8)):=fun(j,k,h,g,e)=>if ltI g (J0 e.2.1)then(idx e.2.1 g).bind λz=>if leI z.1 e.2.2 then(idx e.2.1 g).bind λw=>(J81 w).bind λv=>(J3Y k v).bind λy=>some (.inl (j,y,h,J2 .i64 g 1,e))else(idx e.2.1 g).bind λx=>(J81 x).bind λn=>(J3Y h n).bind λq=>some (.inl (j,k,q,J2 .i64 g 1,e))else Option.map .inr ((J0Q h none (some (JbE (J4a j 0) (J0 h)))).bind λo=>(J3Y k o).bind λr=>some r)
def J4O(x1:J8w):Option (List UInt8):=(J0f x1.1).bind λg=>if Jr g then some []else(JbJ x1.1.1).bind λe=>Jc (JgX) (x1.2,e,[],0,x1.1)
def JaD(x1:JDs):Option (J0i×(List UInt8)):=(J1v (x1.1.1.2.2.2.1,x1.2.2.1)).bind λe=>if geI e 0 then(idx x1.1.1.2.2.2.1.2.1 e).bind λq=>if q.2.1 then(idx x1.1.1.2.2.2.1.2.1 e).bind λv=>(J4b v.1).bind λw=>(idx x1.1.1.2.2.2.1.2.1 e).bind λo=>(J2G (x1.1.1,o.1.2.1)).bind λg=>(JbK (x1.1.2,x1.2.2.1,w.1,x1.2.2.2)).bind λn=>if eqI n.2 0 then(J4O (g.2.2.1,x1.2.1)).bind λr=>some (n.1,r)else(J4O (g.2.2.1,x1.2.1)).bind λh=>some (x1.1.2,h)else(J4O (x1.1.1.2.2.1,x1.2.1)).bind λk=>some (x1.1.2,k)else(J4O (x1.1.1.2.2.1,x1.2.1)).bind λj=>some (x1.1.2,j)
def J6r(x1:J2A):Option (JZ):=if ltI x1.2 0=false then if gtI x1.2 (J0 x1.1)then some ([],0,1)else(J0e (x1.1,x1.2,4)).bind λe=>if neI e.2 0 then some ([],0,5)else if gtI e.1 8392 then some ([],0,2)else if ltI (JI .i64 (J0 x1.1) x1.2) (J2 .i64 e.1 8)then some ([],0,5)else(J0e (x1.1,J2 .i64 (J2 .i64 x1.2 4) e.1,4)).bind λh=>(J0Q x1.1 (some x1.2) (some (J2 .i64 (J2 .i64 x1.2 4) e.1))).bind λj=>(J6J j).bind λk=>if neI (cvI .u32 h.1) k then some ([],0,3)else(J0Q x1.1 (some (J2 .i64 x1.2 4)) (some (J2 .i64 (J2 .i64 x1.2 4) e.1))).bind λg=>some (g,J2 .i64 (J2 .i64 x1.2 8) e.1,0)else some ([],0,1)
def J3B(x1:JDI):Option ((List UInt8)×JZ):=if neI x1.2.2.2 0 then some ([],x1.2)else if gtI x1.1 (JI .i64 (J0 x1.2.1) x1.2.2.1)then some ([],x1.2.1,x1.2.2.1,5)else(J0Q x1.2.1 (some (JI .i64 (J2 .i64 x1.2.2.1 x1.1) x1.1)) (some (J2 .i64 x1.2.2.1 x1.1))).bind λe=>some (e,x1.2.1,J2 .i64 x1.2.2.1 x1.1,x1.2.2.2)
def J0x(x1:JDI):Option (JDI):=if neI x1.2.2.2 0 then some (0,x1.2)else(J0e (x1.2.1,x1.2.2.1,x1.1)).bind λe=>if neI e.2 0 then some (0,x1.2.1,x1.2.2.1,e.2)else some (e.1,x1.2.1,J2 .i64 x1.2.2.1 x1.1,x1.2.2.2)
def J48(x1:JZ):Option (J1y×JZ):=(J0x (1,x1)).bind λe=>if neI e.2.2.2 0=false then if eqI e.1 255 then some ((false,[]),e.2)else if gtI e.1 12 then some ((false,[]),e.2.1,e.2.2.1,4)else(J3B e).bind λg=>some ((true,g.1),g.2)else some ((false,[]),e.2)
def J9w(x1:List UInt8):Option (JrU):=(J0x (8,x1,0,0)).bind λq=>(J0x (1,q.2)).bind λn=>(J0x (4,n.2)).bind λv=>(J0x (8,v.2)).bind λw=>(J0x (8,w.2)).bind λk=>(J0x (8,k.2)).bind λj=>(J0x (4,j.2)).bind λr=>(J0x (1,r.2)).bind λo=>(J48 o.2).bind λg=>(J48 g.2).bind λh=>(J0x (4,h.2)).bind λy=>(J3B y).bind λe=>if neI e.2.2.2 0 then some ((0,0,0,0,0,0,(0,0,(false,[]),false,[]),[]),e.2.2.2)else if neI e.2.2.1 (J0 x1)then some ((0,0,0,0,0,0,(0,0,(false,[]),false,[]),[]),4)else(J0D (q.1,n.1,v.1,w.1,k.1,j.1,(r.1,o.1,g.1,h.1),e.1)).bind λx=>if Jr x then some ((0,0,0,0,0,0,(0,0,(false,[]),false,[]),[]),12)else some ((q.1,n.1,v.1,w.1,k.1,j.1,(r.1,o.1,g.1,h.1),e.1),0)
def Jj1:JRM->Option ((JRM)⊕(J8w)):=fun(h,q,r,v,k,g,o,e)=>if ltI (J0 g) 4096 then(J6r (h,q)).bind λn=>if neI n.2.2 0 then some (.inr ((e.1,g,e.2),0))else(J9w n.1).bind λj=>if neI j.2 0=false then if neI j.1.1 (J2 .i64 e.2 1)then some (.inr ((e.1,g,e.2),0))else(JN 128 g [j.1]).bind λw=>some (.inl (h,n.2.1,r,v,k,w,o,e.1,j.1.1))else some (.inr ((e.1,g,e.2),0))else some (.inr ((e.1,g,e.2),0))
def Jcu(x1:List UInt8):Option (J8w):=(J6r (x1,0)).bind λe=>if neI e.2.2 0=false then if neI (J0 e.1) 12=false then(J0Q e.1 none (some 4)).bind λh=>if neS h [80,77,76,71]then some ((0,[],0),4)else(J0e (e.1,4,8)).bind λg=>if ltI g.1 1=false then if gtI g.1 1099511627776 then some ((0,[],0),4)else Jc (Jj1) (x1,e.2.1,[],0,0,[],[],g.1,JI .i64 g.1 1)else some ((0,[],0),4)else some ((0,[],0),4)else some ((0,[],0),4)
def Jcg(x1:Jef):Option (Bool):=if neI x1.1.2.1.1 x1.2.2.1.1 then some (ltI x1.1.2.1.1 x1.2.2.1.1)else if neI x1.1.2.1.2 x1.2.2.1.2 then some (ltI x1.1.2.1.2 x1.2.2.1.2)else some (ltI x1.1.1 x1.2.1)
def Jk5:(List T_api_Grant)×Int×T_api_Grant->Option (((List T_api_Grant)×Int×T_api_Grant)⊕(List T_api_Grant)):=fun(e,g,h)=>if ltI g (J0 e)then(idx e g).bind λH=>(Jcg (H,h)).bind λM=>if M then some (.inl (e,J2 .i64 g 1,h))else Option.map .inr (if ltI g (J0 e)then(idx e g).bind λJ=>if eqT J5 J h then some e else(J0Q e none (some g)).bind λK=>(J3g 32 K).bind λG=>(JN 32 G [h]).bind λI=>(J0Q e (some g) none).bind λL=>(JN 32 I L).bind λk=>some k else(J0Q e none (some g)).bind λF=>(J3g 32 F).bind λD=>(JN 32 D [h]).bind λn=>(J0Q e (some g) none).bind λB=>(JN 32 n B).bind λr=>some r)else Option.map .inr (if ltI g (J0 e)then(idx e g).bind λC=>if eqT J5 C h then some e else(J0Q e none (some g)).bind λx=>(J3g 32 x).bind λy=>(JN 32 y [h]).bind λA=>(J0Q e (some g) none).bind λz=>(JN 32 A z).bind λo=>some o else(J0Q e none (some g)).bind λE=>(J3g 32 E).bind λw=>(JN 32 w [h]).bind λq=>(J0Q e (some g) none).bind λj=>(JN 32 q j).bind λv=>some v)
def Jcc(x1:JiN):Option (List T_api_Grant):=Jc (Jk5) (x1.1,0,x1.2)
def JgO:JSi->Option ((JSi)⊕((JPz)⊕(Jws))):=fun(g,n,e,j,h)=>(idx g e).bind λv=>if ltI j (J0 v.2.2.2.2.1)then(idx g e).bind λw=>(idx w.2.2.2.2.1 j).bind λo=>(J0N (h,o)).bind λk=>if neI k.2 0 then Option.map .inr (some (.inr ([],14)))else if neI k.1.2.1 1=false then(idx g e).bind λr=>if neI k.1.2.2.1 r.1 then Option.map .inr (some (.inr ([],13)))else(Jcc (n,k.1.2.2.1,(k.1.2.2.2.2.2.2.1.1,k.1.2.2.2.2.2.2.1.2.1),2)).bind λq=>some (.inl (g,q,e,J2 .i64 j 1,h))else Option.map .inr (some (.inr ([],13)))else some (.inr (.inl (g,n,J2 .i64 e 1,h)))
def Jit:JPz->Option ((JPz)⊕(Jws)):=fun(e,g,h,j)=>if ltI h (J0 e)then Jc (JgO) (e,g,h,0,j)else some (.inr (g,0))
def Jam(x1:J04×(List Jq)):Option (Jws):=Jc (Jit) (x1.2,[],0,x1.1)
def Jfo:JRl->Option ((JRl)⊕(Jdx)):=fun(g,j,e,k,h)=>if ltI e j then(J0e (g,J2 .i64 2 (J20 .i64 24 e),8)).bind λr=>(J0e (g,J2 .i64 10 (J20 .i64 24 e),8)).bind λv=>(J0e (g,J2 .i64 18 (J20 .i64 24 e),8)).bind λo=>(JN 24 h [(r.1,v.1,o.1)]).bind λn=>some (.inl (g,j,J2 .i64 e 1,k,n))else Option.map .inr ((J1H h).bind λq=>if Jr q then some ([],28)else some (h,0))
def J9e(x1:List UInt8):Option (Jdx):=(J0e (x1,0,2)).bind λe=>if neI e.2 0=false then if ltI (JI .i64 (J0 x1) 2) (J20 .i64 24 e.1)then some ([],5)else if gtI (JI .i64 (J0 x1) 2) (J20 .i64 24 e.1)then some ([],4)else Jc (Jfo) (x1,e.1,0,[],[])else some ([],5)
def J14(x1:JFx):Option (JFx):=(J0e (x1.2.1,x1.2.2.1,x1.1)).bind λe=>if x1.2.2.2=false then if neI e.2 0 then some (0,x1.2.1,x1.2.2.1,true)else some (e.1,x1.2.1,J2 .i64 x1.2.2.1 x1.1,x1.2.2.2)else some (0,x1.2.1,x1.2.2.1,true)
def Jbk:JOG->Option ((JOG)⊕((List Int)×J2p)):=fun(h,e,g)=>if gtI h 0 then if Jr e.2.2 then(J14 (8,e)).bind λj=>(JN 8 g [j.1]).bind λk=>some (.inl (JI .i64 h 1,j.2,k))else some (.inr (g,e))else some (.inr (g,e))
def J47(x1:JFx):Option ((List Int)×J2p):=(J14 x1).bind λe=>Jc (Jbk) (e.1,e.2,[])
def Jfn:JRq->Option ((JRq)⊕(J2x)):=fun(h,j,e,g)=>if gtI j 0 then if Jr e.2.2 then(J14 (4,e)).bind λx=>(J14 (1,x.2)).bind λy=>(J14 (8,y.2)).bind λn=>(J14 (8,n.2)).bind λk=>(J47 (2,k.2)).bind λw=>(J47 (1,w.2)).bind λo=>(JN 80 g [(x.1,y.1,n.1,k.1,w.1,o.1)]).bind λq=>some (.inl (h,JI .i64 j 1,o.2,q))else Option.map .inr (if e.2.2 then some ([],5)else if neI e.2.1 (J0 h)then some ([],4)else(J12 g).bind λv=>if Jr v then some ([],15)else some (g,0))else Option.map .inr (if e.2.2 then some ([],5)else if neI e.2.1 (J0 h)then some ([],4)else(J12 g).bind λr=>if Jr r then some ([],15)else some (g,0))
def J9v(x1:List UInt8):Option (J2x):=(J14 (2,x1,0,false)).bind λe=>Jc (Jfn) (x1,e.1,e.2,[])
def JgA:TQ9->Option ((TQ9)⊕(Jsd)):=fun(e,r,g,v,q,z,C,A,y,B,h,k,j,x,w)=>if ltI q v then(J0e (e,g,1)).bind λH=>(J0e (e,J2 .i64 g 1,8)).bind λI=>(J0e (e,J2 .i64 g 9,8)).bind λD=>(JN 24 h [(H.1,I.1,D.1)]).bind λG=>some (.inl (e,r,J2 .i64 g 17,v,J2 .i64 q 1,z,C,A,y,B,G,k,j,x,w))else Option.map .inr ((J9v r).bind λo=>if neI o.2 0 then some ((0,0,[],[],[]),o.2)else(J0Q e (some g) none).bind λE=>(J9e E).bind λn=>if neI n.2 0 then some ((0,0,[],[],[]),n.2)else(J7Z (k,j,o.1,h,n.1)).bind λF=>if Jr F then some ((0,0,[],[],[]),24)else some ((k,j,o.1,h,n.1),0))
def J9f(x1:List UInt8):Option (Jsd):=(J0e (x1,0,2)).bind λj=>(J0e (x1,2,4)).bind λh=>(J0e (x1,6,4)).bind λe=>if neI e.2 0=false then if gtI e.1 (JI .i64 (J0 x1) 10)then some ((0,0,[],[],[]),5)else(J0Q x1 (some 10) (some (J2 .i64 10 e.1))).bind λk=>(J0e (x1,J2 .i64 10 e.1,1)).bind λg=>if neI g.2 0=false then if ltI (JI .i64 (JI .i64 (J0 x1) (J2 .i64 10 e.1)) 1) (J20 .i64 17 g.1)then some ((0,0,[],[],[]),5)else Jc (JgA) (x1,k,J2 .i64 (J2 .i64 10 e.1) 1,g.1,0,[],0,0,[],[],[],j.1,h.1,[],[])else some ((0,0,[],[],[]),5)else some ((0,0,[],[],[]),5)
def Jgj:Int×J04×J18->Option ((Int×J04×J18)⊕(J18×Int×Bool)):=fun(e,g,h)=>if geI e 0 then(idx g.2.1 e).bind λn=>if neI n.2.1 6 then some (.inl (JI .i64 e 1,g,h))else(idx g.2.1 e).bind λo=>(J9f o.2.2.2.2.2.2.2).bind λj=>if eqI j.2 0 then(idx g.2.1 e).bind λk=>some (.inr (j.1,k.1,true))else some (.inl (JI .i64 e 1,g,h))else some (.inr ((0,0,[],[],[]),0,false))
def J9d(x1:J04):Option (J18×Int×Bool):=(J0f x1).bind λe=>if Jr e then some ((0,0,[],[],[]),0,false)else Jc (Jgj) (JI .i64 (J0 x1.2.1) 1,x1,0,0,[],[],[])
def Jaq(x1:J8w):Option (Jx8):=(J9d x1.1).bind λe=>if Jr e.2.2 then if gtI x1.1.1 1 then some ((0,0,0,[],[],[],[]),24)else(Ja5 x1.2).bind λg=>some ((x1.2,1,0,[],[],[],g.1),0)else if neI e.1.1 x1.2 then some ((0,0,0,[],[],[],[]),24)else some ((x1.2,e.1.2.1,e.2.1,e.1.2.2.1,[],e.1.2.2.2),0)
def Jca:JEJ->Option ((JEJ)⊕(List T_api_Row)):=fun(h,n,g,e,j)=>if ltI g (J0 h)then(idx h g).bind λk=>if gtI k.1 e.2.2.2.2.2.2.1.1 then if Jr n then(J07 e).bind λO=>if O then(JN 24 j [(e.2.2.2.2.2.2.1.1,e.1,e.1)]).bind λo=>if eqI k.1 e.2.2.2.2.2.2.1.1 then(J07 e).bind λM=>if M then(JN 24 o [(k.1,k.2.1,e.1)]).bind λN=>some (.inl (h,true,J2 .i64 g 1,e,N))else if geI e.2.2.2.2.2.1 k.2.2 then some (.inl (h,true,J2 .i64 g 1,e,o))else if geI e.2.2.2.2.2.1 k.2.1 then(JN 24 o [(k.1,J2 .i64 e.2.2.2.2.2.1 1,k.2.2)]).bind λP=>some (.inl (h,true,J2 .i64 g 1,e,P))else(JN 24 o [k]).bind λr=>some (.inl (h,true,J2 .i64 g 1,e,r))else(JN 24 o [k]).bind λK=>some (.inl (h,true,J2 .i64 g 1,e,K))else if eqI k.1 e.2.2.2.2.2.2.1.1 then(J07 e).bind λH=>if H then(JN 24 j [(k.1,k.2.1,e.1)]).bind λv=>some (.inl (h,true,J2 .i64 g 1,e,v))else if geI e.2.2.2.2.2.1 k.2.2 then some (.inl (h,true,J2 .i64 g 1,e,j))else if geI e.2.2.2.2.2.1 k.2.1 then(JN 24 j [(k.1,J2 .i64 e.2.2.2.2.2.1 1,k.2.2)]).bind λF=>some (.inl (h,true,J2 .i64 g 1,e,F))else(JN 24 j [k]).bind λy=>some (.inl (h,true,J2 .i64 g 1,e,y))else(JN 24 j [k]).bind λG=>some (.inl (h,n,J2 .i64 g 1,e,G))else if eqI k.1 e.2.2.2.2.2.2.1.1 then(J07 e).bind λB=>if B then(JN 24 j [(k.1,k.2.1,e.1)]).bind λC=>some (.inl (h,true,J2 .i64 g 1,e,C))else if geI e.2.2.2.2.2.1 k.2.2 then some (.inl (h,true,J2 .i64 g 1,e,j))else if geI e.2.2.2.2.2.1 k.2.1 then(JN 24 j [(k.1,J2 .i64 e.2.2.2.2.2.1 1,k.2.2)]).bind λE=>some (.inl (h,true,J2 .i64 g 1,e,E))else(JN 24 j [k]).bind λD=>some (.inl (h,true,J2 .i64 g 1,e,D))else(JN 24 j [k]).bind λw=>some (.inl (h,n,J2 .i64 g 1,e,w))else if eqI k.1 e.2.2.2.2.2.2.1.1 then(J07 e).bind λJ=>if J then(JN 24 j [(k.1,k.2.1,e.1)]).bind λA=>some (.inl (h,true,J2 .i64 g 1,e,A))else if geI e.2.2.2.2.2.1 k.2.2 then some (.inl (h,true,J2 .i64 g 1,e,j))else if geI e.2.2.2.2.2.1 k.2.1 then(JN 24 j [(k.1,J2 .i64 e.2.2.2.2.2.1 1,k.2.2)]).bind λx=>some (.inl (h,true,J2 .i64 g 1,e,x))else(JN 24 j [k]).bind λq=>some (.inl (h,true,J2 .i64 g 1,e,q))else(JN 24 j [k]).bind λz=>some (.inl (h,n,J2 .i64 g 1,e,z))else Option.map .inr (if Jr n then(J07 e).bind λI=>if I then(JN 24 j [(e.2.2.2.2.2.2.1.1,e.1,e.1)]).bind λL=>some L else some j else some j)
def Jwj:JEJ->Option ((JEJ)⊕(List T_api_Row)):=fun(g,n,h,e,k)=>if ltI h (J0 g)then(idx g h).bind λj=>if gtI j.1 e.2.2.2.2.2.2.1.1 then if Jr n then(J07 e).bind λr=>if r then(JN 24 k [(e.2.2.2.2.2.2.1.1,e.1,e.1)]).bind λo=>if eqI j.1 e.2.2.2.2.2.2.1.1 then(J07 e).bind λG=>if G then(JN 24 o [(j.1,j.2.1,e.1)]).bind λO=>some (.inl (g,true,J2 .i64 h 1,e,O))else if geI e.2.2.2.2.2.1 j.2.2 then some (.inl (g,true,J2 .i64 h 1,e,o))else if geI e.2.2.2.2.2.1 j.2.1 then(JN 24 o [(j.1,J2 .i64 e.2.2.2.2.2.1 1,j.2.2)]).bind λq=>some (.inl (g,true,J2 .i64 h 1,e,q))else(JN 24 o [j]).bind λw=>some (.inl (g,true,J2 .i64 h 1,e,w))else(JN 24 o [j]).bind λL=>some (.inl (g,true,J2 .i64 h 1,e,L))else if eqI j.1 e.2.2.2.2.2.2.1.1 then(J07 e).bind λB=>if B then(JN 24 k [(j.1,j.2.1,e.1)]).bind λE=>some (.inl (g,true,J2 .i64 h 1,e,E))else if geI e.2.2.2.2.2.1 j.2.2 then some (.inl (g,true,J2 .i64 h 1,e,k))else if geI e.2.2.2.2.2.1 j.2.1 then(JN 24 k [(j.1,J2 .i64 e.2.2.2.2.2.1 1,j.2.2)]).bind λI=>some (.inl (g,true,J2 .i64 h 1,e,I))else(JN 24 k [j]).bind λJ=>some (.inl (g,true,J2 .i64 h 1,e,J))else(JN 24 k [j]).bind λz=>some (.inl (g,n,J2 .i64 h 1,e,z))else if eqI j.1 e.2.2.2.2.2.2.1.1 then(J07 e).bind λA=>if A then(JN 24 k [(j.1,j.2.1,e.1)]).bind λx=>some (.inl (g,true,J2 .i64 h 1,e,x))else if geI e.2.2.2.2.2.1 j.2.2 then some (.inl (g,true,J2 .i64 h 1,e,k))else if geI e.2.2.2.2.2.1 j.2.1 then(JN 24 k [(j.1,J2 .i64 e.2.2.2.2.2.1 1,j.2.2)]).bind λP=>some (.inl (g,true,J2 .i64 h 1,e,P))else(JN 24 k [j]).bind λy=>some (.inl (g,true,J2 .i64 h 1,e,y))else(JN 24 k [j]).bind λF=>some (.inl (g,n,J2 .i64 h 1,e,F))else if eqI j.1 e.2.2.2.2.2.2.1.1 then(J07 e).bind λN=>if N then(JN 24 k [(j.1,j.2.1,e.1)]).bind λH=>some (.inl (g,true,J2 .i64 h 1,e,H))else if geI e.2.2.2.2.2.1 j.2.2 then some (.inl (g,true,J2 .i64 h 1,e,k))else if geI e.2.2.2.2.2.1 j.2.1 then(JN 24 k [(j.1,J2 .i64 e.2.2.2.2.2.1 1,j.2.2)]).bind λC=>some (.inl (g,true,J2 .i64 h 1,e,C))else(JN 24 k [j]).bind λD=>some (.inl (g,true,J2 .i64 h 1,e,D))else(JN 24 k [j]).bind λK=>some (.inl (g,n,J2 .i64 h 1,e,K))else Option.map .inr (if Jr n then(J07 e).bind λv=>if v then(JN 24 k [(e.2.2.2.2.2.2.1.1,e.1,e.1)]).bind λM=>some M else some k else some k)
def J34(x1:JKu):Option (List T_api_Row):=(J07 x1.2).bind λe=>if Jr e then if neI x1.2.2.1 7 then some x1.1 else Jc (Jca) (x1.1,false,0,x1.2,[])else Jc (Jwj) (x1.1,false,0,x1.2,[])
def JbA(x1:J1Z×Js):Option (Jx8):=if gtI x1.2.2.2.1 0 then(J0R (x1.1.2.2.2.1,x1.2.2.2.1)).bind λB=>if ltI B 0 then(J7V (x1.1.2.2.2.1,x1.2.2.2.1)).bind λo=>if neI o.2 0 then some (x1.1,o.2)else(J0G (o.1,x1.2)).bind λk=>if neI k.2 0 then some ((x1.1.1,x1.1.2.1,x1.1.2.2.1,o.1,x1.1.2.2.2.2),k.2)else(J31 (x1.1.2.2.2.2.2.2,x1.2)).bind λn=>if neI n.2 0 then some ((x1.1.1,J4a x1.1.2.1 (J2 .i64 x1.2.2.2.1 1),x1.1.2.2.1,k.1,x1.1.2.2.2.2),n.2)else(J07 x1.2).bind λA=>if A then if geI x1.2.2.2.2.2.2.2.1.1 x1.1.1 then some ((x1.1.1,J4a x1.1.2.1 (J2 .i64 x1.2.2.2.1 1),x1.1.2.2.1,k.1,x1.1.2.2.2.2.1,x1.1.2.2.2.2.2.1,n.1),1)else(J34 (x1.1.2.2.2.2.2.1,x1.2)).bind λz=>some ((x1.1.1,J4a x1.1.2.1 (J2 .i64 x1.2.2.2.1 1),x1.1.2.2.1,k.1,x1.1.2.2.2.2.1,z,n.1),0)else(J34 (x1.1.2.2.2.2.2.1,x1.2)).bind λC=>some ((x1.1.1,J4a x1.1.2.1 (J2 .i64 x1.2.2.2.1 1),x1.1.2.2.1,k.1,x1.1.2.2.2.2.1,C,n.1),0)else(J0G (x1.1.2.2.2.1,x1.2)).bind λj=>if neI j.2 0 then some (x1.1,j.2)else(J31 (x1.1.2.2.2.2.2.2,x1.2)).bind λh=>if neI h.2 0 then some ((x1.1.1,J4a x1.1.2.1 (J2 .i64 x1.2.2.2.1 1),x1.1.2.2.1,j.1,x1.1.2.2.2.2),h.2)else(J07 x1.2).bind λw=>if w then if geI x1.2.2.2.2.2.2.2.1.1 x1.1.1 then some ((x1.1.1,J4a x1.1.2.1 (J2 .i64 x1.2.2.2.1 1),x1.1.2.2.1,j.1,x1.1.2.2.2.2.1,x1.1.2.2.2.2.2.1,h.1),1)else(J34 (x1.1.2.2.2.2.2.1,x1.2)).bind λv=>some ((x1.1.1,J4a x1.1.2.1 (J2 .i64 x1.2.2.2.1 1),x1.1.2.2.1,j.1,x1.1.2.2.2.2.1,v,h.1),0)else(J34 (x1.1.2.2.2.2.2.1,x1.2)).bind λx=>some ((x1.1.1,J4a x1.1.2.1 (J2 .i64 x1.2.2.2.1 1),x1.1.2.2.1,j.1,x1.1.2.2.2.2.1,x,h.1),0)else(J0G (x1.1.2.2.2.1,x1.2)).bind λe=>if neI e.2 0 then some (x1.1,e.2)else(J31 (x1.1.2.2.2.2.2.2,x1.2)).bind λg=>if neI g.2 0 then some ((x1.1.1,J4a x1.1.2.1 (J2 .i64 x1.2.2.2.1 1),x1.1.2.2.1,e.1,x1.1.2.2.2.2),g.2)else(J07 x1.2).bind λq=>if q then if geI x1.2.2.2.2.2.2.2.1.1 x1.1.1 then some ((x1.1.1,J4a x1.1.2.1 (J2 .i64 x1.2.2.2.1 1),x1.1.2.2.1,e.1,x1.1.2.2.2.2.1,x1.1.2.2.2.2.2.1,g.1),1)else(J34 (x1.1.2.2.2.2.2.1,x1.2)).bind λr=>some ((x1.1.1,J4a x1.1.2.1 (J2 .i64 x1.2.2.2.1 1),x1.1.2.2.1,e.1,x1.1.2.2.2.2.1,r,g.1),0)else(J34 (x1.1.2.2.2.2.2.1,x1.2)).bind λy=>some ((x1.1.1,J4a x1.1.2.1 (J2 .i64 x1.2.2.2.1 1),x1.1.2.2.1,e.1,x1.1.2.2.2.2.1,y,g.1),0)
def JeN:JSg->Option ((JSg)⊕(Jx8)):=fun(g,j,k,e,h)=>if ltI g (J0 e.2.2.2.1)then(idx e.2.2.2.1 g).bind λr=>if gtI r.2.2.1 0 then(idx e.2.2.2.1 g).bind λo=>(JN 80 h [o]).bind λq=>some (.inl (J2 .i64 g 1,j,k,e,q))else some (.inl (J2 .i64 g 1,j,k,e,h))else Option.map .inr ((Jam (j,h)).bind λn=>if neI n.2 0 then some ((0,0,0,[],[],[],[]),n.2)else some ((e.1,e.2.1,e.2.2.1,h,n.1,e.2.2.2.2.2.1,e.2.2.2.2.2.2),0))
def JeM:JS6->Option ((JS6)⊕(Jx8)):=fun(g,e,j,h)=>if ltI g (J0 e.2.1)then(idx e.2.1 g).bind λo=>if leI o.1 h.2.2.1 then some (.inl (J2 .i64 g 1,e,j,h))else(idx e.2.1 g).bind λn=>(JbA (h,n)).bind λk=>if neI k.2 0 then some (.inr ((0,0,0,[],[],[],[]),k.2))else some (.inl (J2 .i64 g 1,e,j,k.1))else Option.map .inr (Jc (JeN) (0,e,j,h,[]))
def J8m(x1:J8w):Option (Jx8):=(J0f x1.1).bind λg=>if Jr g then some ((0,0,0,[],[],[],[]),26)else if ltI x1.2 1=false then if gtI x1.2 64 then some ((0,0,0,[],[],[],[]),1)else(Jaq x1).bind λe=>if neI e.2 0 then some ((0,0,0,[],[],[],[]),e.2)else Jc (JeM) (0,x1.1,(0,0,0,[],[],[],[]),e.1)else some ((0,0,0,[],[],[],[]),1)
def Ji6:JSn->Option ((JSn)⊕(J1l)):=fun(e,n,g,k,j,h)=>if ltI e (J0 g.2.2.2.1)then(idx g.2.2.2.1 e).bind λr=>if eqI r.2.1 3 then some (.inl (J2 .i64 e 1,n,g,k,j,h))else(idx g.2.2.2.1 e).bind λq=>(J1m (h,0,4,q.1,0,0,0,(0,0,(false,[]),false,[]),[])).bind λo=>if neI o.2.2 0 then some (.inr ((0,0,(0,[],0),(0,[],0),([],[]),[],[],[]),o.2.2))else some (.inl (J2 .i64 e 1,n,g,k,j,o.1))else some (.inr (h,0))
def Jaz(x1:J04×J1Z×Int):Option (J1l):=(Ja0 x1.2.2).bind λe=>if neI e.2 0 then some ((0,0,(0,[],0),(0,[],0),([],[]),[],[],[]),1)else(JM (x1.2.1.1,x1.2.1.2.1,x1.1,e.1,(x1.2.1.2.2.2.2.1,[]),x1.2.1.2.2.2.1,x1.2.1.2.2.2.2.2.2,x1.2.1.2.2.2.2.2.1)).bind λg=>if Jr g then some ((0,0,(0,[],0),(0,[],0),([],[]),[],[],[]),15)else Jc (Ji6) (0,x1.1,x1.2.1,(0,0,(0,[],0),(0,[],0),([],[]),[],[],[]),e.1,x1.2.1.1,x1.2.1.2.1,x1.1,e.1,(x1.2.1.2.2.2.2.1,[]),x1.2.1.2.2.2.1,x1.2.1.2.2.2.2.2.2,x1.2.1.2.2.2.2.2.1)
def JbF(x1:JM2):Option (J42):=(Jcu x1.2.1).bind λe=>if neI e.2 0 then some (((0,0,(0,[],0),(0,[],0),([],[]),[],[],[]),[],0,[],false,[]),e.2)else(J8m (e.1,x1.2.2.1)).bind λg=>if neI g.2 0 then some (((0,0,(0,[],0),(0,[],0),([],[]),[],[],[]),[],0,[],false,[]),g.2)else(Jaz (e.1,g.1,x1.2.2.2)).bind λh=>if neI h.2 0 then some (((0,0,(0,[],0),(0,[],0),([],[]),[],[],[]),[],0,[],false,[]),h.2)else some ((h.1,x1.1),0)
def Jbx(x1:JM2):Option (J42):=(JbF x1).bind λe=>some e
def J8J:TQ1->Option ((TQ1)⊕(TQ3)):=fun(k,h,G,H,J,F,D,C,E,I,n,B,x,y,z,A,v,w,q,r,o,g,j,L,K,M,e)=>if ltI h (J0 g)then(inb (List.length g) h).bind λ_=>(lat g (Int.toNat h)).bind λ_=>some (.inl (k,J2 .i64 h 1,G,H,J,F,D,C,E,I,n,B,x,y,z,A,v,w,q,r,o,J0w g (Int.toNat h) 0,j,L,K,M,e))else Option.map .inr (if neI k 0 then(J2M k).bind λN=>some (N,G,H,J,F,D,C,E,I,n,B,x,y,z,A,v,w,q,r,true,g,j)else(J2M 0).bind λO=>some (O,e.1.1,e.1.2.1,e.1.2.2.1.1,e.1.2.2.1.2.1,e.1.2.2.1.2.2,e.1.2.2.2.1.1,e.1.2.2.2.1.2.1,e.1.2.2.2.1.2.2,e.1.2.2.2.2.1.1,e.1.2.2.2.2.1.2,e.1.2.2.2.2.2.1,e.1.2.2.2.2.2.2.1,e.1.2.2.2.2.2.2.2,e.2.1,e.2.2.1,e.2.2.2.1,e.2.2.2.2.1,e.2.2.2.2.2,o,g,j))
def J4m(x1:TQ4):Option (TQ3):=(JaD (((x1.2.1,x1.2.2.1,(x1.2.2.2.1,x1.2.2.2.2.1,x1.2.2.2.2.2.1),(x1.2.2.2.2.2.2.1,x1.2.2.2.2.2.2.2.1,x1.2.2.2.2.2.2.2.2.1),(x1.2.2.2.2.2.2.2.2.2.1,x1.2.2.2.2.2.2.2.2.2.2.1),x1.2.2.2.2.2.2.2.2.2.2.2.1,x1.2.2.2.2.2.2.2.2.2.2.2.2.1,x1.2.2.2.2.2.2.2.2.2.2.2.2.2.1),x1.2.2.2.2.2.2.2.2.2.2.2.2.2.2.1,x1.2.2.2.2.2.2.2.2.2.2.2.2.2.2.2.1,x1.2.2.2.2.2.2.2.2.2.2.2.2.2.2.2.2.1,x1.2.2.2.2.2.2.2.2.2.2.2.2.2.2.2.2.2.1,x1.2.2.2.2.2.2.2.2.2.2.2.2.2.2.2.2.2.2.1),x1.1.2.2.2.1,x1.1.2.2.1,x1.1.2.2.2.2.1)).bind λe=>(Jbx (e.1,e.2,x1.2.1,x1.2.2.2.2.2.2.1)).bind λg=>Jc (J8J) (g.2,0,x1.2.1,x1.2.2.1,x1.2.2.2.1,x1.2.2.2.2.1,x1.2.2.2.2.2.1,x1.2.2.2.2.2.2.1,x1.2.2.2.2.2.2.2.1,x1.2.2.2.2.2.2.2.2.1,x1.2.2.2.2.2.2.2.2.2.1,x1.2.2.2.2.2.2.2.2.2.2.1,x1.2.2.2.2.2.2.2.2.2.2.2.1,x1.2.2.2.2.2.2.2.2.2.2.2.2.1,x1.2.2.2.2.2.2.2.2.2.2.2.2.2.1,x1.2.2.2.2.2.2.2.2.2.2.2.2.2.2.1,x1.2.2.2.2.2.2.2.2.2.2.2.2.2.2.2.1,x1.2.2.2.2.2.2.2.2.2.2.2.2.2.2.2.2.1,x1.2.2.2.2.2.2.2.2.2.2.2.2.2.2.2.2.2.1,x1.2.2.2.2.2.2.2.2.2.2.2.2.2.2.2.2.2.2.1,x1.2.2.2.2.2.2.2.2.2.2.2.2.2.2.2.2.2.2.2.1,x1.2.2.2.2.2.2.2.2.2.2.2.2.2.2.2.2.2.2.2.2.1,x1.2.2.2.2.2.2.2.2.2.2.2.2.2.2.2.2.2.2.2.2.2,x1.1,(0,0,0,(false,[]),0),e.1,g.1)
def J1z(x1:TQ2):Option (TQ3):=if eqI x1.2.1 0 then(J2M x1.2.1).bind λg=>some (g,x1.1.1.1,x1.1.1.2.1,x1.1.1.2.2.1.1,x1.1.1.2.2.1.2.1,x1.1.1.2.2.1.2.2,x1.1.1.2.2.2.1.1,x1.1.1.2.2.2.1.2.1,x1.1.1.2.2.2.1.2.2,x1.1.1.2.2.2.2.1.1,x1.1.1.2.2.2.2.1.2,x1.1.1.2.2.2.2.2.1,x1.1.1.2.2.2.2.2.2.1,x1.1.1.2.2.2.2.2.2.2,x1.1.2.1,x1.1.2.2.1,x1.1.2.2.2.1,x1.1.2.2.2.2.1,x1.1.2.2.2.2.2,x1.2.2.2.2.2.2.2.2.2.2.2.2.2.2.2.2.2.2.2.2)else(J2M x1.2.1).bind λe=>some (e,x1.2.2)
def J4z(x1:TQ4):Option (TQ3):=if eqI x1.1.1 1 then(Jan ((x1.2.1,x1.2.2.1,(x1.2.2.2.1,x1.2.2.2.2.1,x1.2.2.2.2.2.1),(x1.2.2.2.2.2.2.1,x1.2.2.2.2.2.2.2.1,x1.2.2.2.2.2.2.2.2.1),(x1.2.2.2.2.2.2.2.2.2.1,x1.2.2.2.2.2.2.2.2.2.2.1),x1.2.2.2.2.2.2.2.2.2.2.2.1,x1.2.2.2.2.2.2.2.2.2.2.2.2.1,x1.2.2.2.2.2.2.2.2.2.2.2.2.2.1),x1.2.2.2.2.2.2.2.2.2.2.2.2.2.2.1,x1.2.2.2.2.2.2.2.2.2.2.2.2.2.2.2.1,x1.2.2.2.2.2.2.2.2.2.2.2.2.2.2.2.2.1,x1.2.2.2.2.2.2.2.2.2.2.2.2.2.2.2.2.2.1,x1.2.2.2.2.2.2.2.2.2.2.2.2.2.2.2.2.2.2.1)).bind λg=>if eqI g.2.2 0 then(JN 8 x1.2.2.2.2.2.2.2.2.2.2.2.2.2.2.2.2.2.2.2.2.1 [g.2.1]).bind λB=>(J1z (g.1,g.2.2,x1.2.1,x1.2.2.1,x1.2.2.2.1,x1.2.2.2.2.1,x1.2.2.2.2.2.1,x1.2.2.2.2.2.2.1,x1.2.2.2.2.2.2.2.1,x1.2.2.2.2.2.2.2.2.1,x1.2.2.2.2.2.2.2.2.2.1,x1.2.2.2.2.2.2.2.2.2.2.1,x1.2.2.2.2.2.2.2.2.2.2.2.1,x1.2.2.2.2.2.2.2.2.2.2.2.2.1,x1.2.2.2.2.2.2.2.2.2.2.2.2.2.1,x1.2.2.2.2.2.2.2.2.2.2.2.2.2.2.1,x1.2.2.2.2.2.2.2.2.2.2.2.2.2.2.2.1,x1.2.2.2.2.2.2.2.2.2.2.2.2.2.2.2.2.1,x1.2.2.2.2.2.2.2.2.2.2.2.2.2.2.2.2.2.1,x1.2.2.2.2.2.2.2.2.2.2.2.2.2.2.2.2.2.2.1,x1.2.2.2.2.2.2.2.2.2.2.2.2.2.2.2.2.2.2.2.1,B,x1.2.2.2.2.2.2.2.2.2.2.2.2.2.2.2.2.2.2.2.2.2)).bind λj=>some ((j.1.1,g.2.1,j.1.2.2),j.2)else(J1z (g.1,g.2.2,x1.2)).bind λk=>some ((k.1.1,g.2.1,k.1.2.2),k.2)else if eqI x1.1.1 2 then(J53 x1).bind λA=>some A else if eqI x1.1.1 3 then(Jas (((x1.2.1,x1.2.2.1,(x1.2.2.2.1,x1.2.2.2.2.1,x1.2.2.2.2.2.1),(x1.2.2.2.2.2.2.1,x1.2.2.2.2.2.2.2.1,x1.2.2.2.2.2.2.2.2.1),(x1.2.2.2.2.2.2.2.2.2.1,x1.2.2.2.2.2.2.2.2.2.2.1),x1.2.2.2.2.2.2.2.2.2.2.2.1,x1.2.2.2.2.2.2.2.2.2.2.2.2.1,x1.2.2.2.2.2.2.2.2.2.2.2.2.2.1),x1.2.2.2.2.2.2.2.2.2.2.2.2.2.2.1,x1.2.2.2.2.2.2.2.2.2.2.2.2.2.2.2.1,x1.2.2.2.2.2.2.2.2.2.2.2.2.2.2.2.2.1,x1.2.2.2.2.2.2.2.2.2.2.2.2.2.2.2.2.2.1,x1.2.2.2.2.2.2.2.2.2.2.2.2.2.2.2.2.2.2.1),x1.1.2.2.1)).bind λn=>(J1z (n.1,n.2,x1.2)).bind λC=>some C else if eqI x1.1.1 4 then(J6l ((x1.2.1,x1.2.2.1,(x1.2.2.2.1,x1.2.2.2.2.1,x1.2.2.2.2.2.1),(x1.2.2.2.2.2.2.1,x1.2.2.2.2.2.2.2.1,x1.2.2.2.2.2.2.2.2.1),(x1.2.2.2.2.2.2.2.2.2.1,x1.2.2.2.2.2.2.2.2.2.2.1),x1.2.2.2.2.2.2.2.2.2.2.2.1,x1.2.2.2.2.2.2.2.2.2.2.2.2.1,x1.2.2.2.2.2.2.2.2.2.2.2.2.2.1),x1.2.2.2.2.2.2.2.2.2.2.2.2.2.2.1,x1.2.2.2.2.2.2.2.2.2.2.2.2.2.2.2.1,x1.2.2.2.2.2.2.2.2.2.2.2.2.2.2.2.2.1,x1.2.2.2.2.2.2.2.2.2.2.2.2.2.2.2.2.2.1,x1.2.2.2.2.2.2.2.2.2.2.2.2.2.2.2.2.2.2.1)).bind λq=>(J1z (q.1,q.2.2,x1.2)).bind λr=>some r else if eqI x1.1.1 5 then(J5C (x1.2.2.2.1,x1.2.2.2.2.1,x1.2.2.2.2.2.1)).bind λx=>(J38 ((x1.2.2.2.1,x1.2.2.2.2.1,x1.2.2.2.2.2.1),x)).bind λe=>if eqI e.2 0 then(J2M e.2).bind λy=>some (y,x1.2.1,x1.2.2.1,e.1.1,e.1.2.1,e.1.2.2,x1.2.2.2.2.2.2)else(J2M e.2).bind λv=>some (v,x1.2)else if eqI x1.1.1 6 then(J4m x1).bind λo=>some o else if eqI x1.1.1 7 then(Jcb ((x1.2.1,x1.2.2.1,(x1.2.2.2.1,x1.2.2.2.2.1,x1.2.2.2.2.2.1),(x1.2.2.2.2.2.2.1,x1.2.2.2.2.2.2.2.1,x1.2.2.2.2.2.2.2.2.1),(x1.2.2.2.2.2.2.2.2.2.1,x1.2.2.2.2.2.2.2.2.2.2.1),x1.2.2.2.2.2.2.2.2.2.2.2.1,x1.2.2.2.2.2.2.2.2.2.2.2.2.1,x1.2.2.2.2.2.2.2.2.2.2.2.2.2.1),x1.2.2.2.2.2.2.2.2.2.2.2.2.2.2.1,x1.2.2.2.2.2.2.2.2.2.2.2.2.2.2.2.1,x1.2.2.2.2.2.2.2.2.2.2.2.2.2.2.2.2.1,x1.2.2.2.2.2.2.2.2.2.2.2.2.2.2.2.2.2.1,x1.2.2.2.2.2.2.2.2.2.2.2.2.2.2.2.2.2.2.1)).bind λh=>(J1z (h.1,h.2.2,x1.2)).bind λw=>some w else(Jz 1).bind λz=>some (z,x1.2)
def Jni:TQ0->Option ((TQ0)⊕(JSe)):=fun(I,H,L,M,K,E,C,D,F,G,n,o,x,z,B,r,v,g,j,y,w,q,h,k,J,A)=>if ltI H (J0 I)then if ltI H 1000 then if Jr J then(idx I H).bind λN=>(J4z (N,C,D,F,G,n,o,x,z,B,r,v,g,j,y,w,q,h,k,J,K,E)).bind λe=>(JN 56 A [e.1]).bind λO=>some (.inl (I,J2 .i64 H 1,L,M,e.2.2.2.2.2.2.2.2.2.2.2.2.2.2.2.2.2.2.2.2.1,e.2.2.2.2.2.2.2.2.2.2.2.2.2.2.2.2.2.2.2.2.2,e.2.1,e.2.2.1,e.2.2.2.1,e.2.2.2.2.1,e.2.2.2.2.2.1,e.2.2.2.2.2.2.1,e.2.2.2.2.2.2.2.1,e.2.2.2.2.2.2.2.2.1,e.2.2.2.2.2.2.2.2.2.1,e.2.2.2.2.2.2.2.2.2.2.1,e.2.2.2.2.2.2.2.2.2.2.2.1,e.2.2.2.2.2.2.2.2.2.2.2.2.1,e.2.2.2.2.2.2.2.2.2.2.2.2.2.1,e.2.2.2.2.2.2.2.2.2.2.2.2.2.2.1,e.2.2.2.2.2.2.2.2.2.2.2.2.2.2.2.1,e.2.2.2.2.2.2.2.2.2.2.2.2.2.2.2.2.1,e.2.2.2.2.2.2.2.2.2.2.2.2.2.2.2.2.2.1,e.2.2.2.2.2.2.2.2.2.2.2.2.2.2.2.2.2.2.1,e.2.2.2.2.2.2.2.2.2.2.2.2.2.2.2.2.2.2.2.1,O))else some (.inr (((C,D,(F,G,n),(o,x,z),(B,r),v,g,j),y,w,q,h,k),A,E))else some (.inr (((C,D,(F,G,n),(o,x,z),(B,r),v,g,j),y,w,q,h,k),A,E))else some (.inr (((C,D,(F,G,n),(o,x,z),(B,r),v,g,j),y,w,q,h,k),A,E))
def Jds(x1:Jx×(List J57)):Option (JSe):=Jc (Jni) (x1.2,0,x1.1,((0,0,(0,[],0),(0,[],0),([],[]),[],[],[]),[],0,[],false,[]),[],[],x1.1.1.1,x1.1.1.2.1,x1.1.1.2.2.1.1,x1.1.1.2.2.1.2.1,x1.1.1.2.2.1.2.2,x1.1.1.2.2.2.1.1,x1.1.1.2.2.2.1.2.1,x1.1.1.2.2.2.1.2.2,x1.1.1.2.2.2.2.1.1,x1.1.1.2.2.2.2.1.2,x1.1.1.2.2.2.2.2.1,x1.1.1.2.2.2.2.2.2.1,x1.1.1.2.2.2.2.2.2.2,x1.1.2.1,x1.1.2.2.1,x1.1.2.2.2.1,x1.1.2.2.2.2.1,x1.1.2.2.2.2.2,false,[])
def J52(x1:Int×Bool×JB):Option (Jx×JB):=(Jn (4,x1.2.2)).bind λe=>(Jn (3,e.2)).bind λg=>(Jdz (J2 .i64 1 e.1,J2 .i64 1 g.1)).bind λk=>(J4B (J2 .i64 1 e.1,x1.1,x1.2.1,g.2)).bind λh=>(Jds (k.1,h.1)).bind λj=>some (j.1,h.2)
def J5Q(x1:JxU):Option (JxU):=if eqI (J0 x1.1) 0 then(Jn (256,x1.2)).bind λk=>some (toStr [cvI .u8 k.1],k.2)else(Jn (J0 x1.1,x1.2)).bind λe=>(Jn (4,e.2)).bind λg=>if eqI g.1 0 then(J0Q x1.1 none (some e.1)).bind λz=>(J0Q x1.1 (some (J2 .i64 e.1 1)) none).bind λx=>(J3Y z x).bind λw=>some (w,g.2)else if eqI g.1 1 then(Jn (256,g.2)).bind λv=>(J3Y x1.1 (toStr [cvI .u8 v.1])).bind λy=>some (y,v.2)else(J0Q x1.1 none (some e.1)).bind λn=>(Jgk x1.1 e.1).bind λq=>(Jn (255,g.2)).bind λh=>(J3Y n (toStr [J4f .u8 q (cvI .u8 (J2 .i64 1 h.1))])).bind λr=>(J0Q x1.1 (some (J2 .i64 e.1 1)) none).bind λo=>(J3Y r o).bind λj=>some (j,h.2)
def J7B(x1:JB):Option (JB):=if gtI (J0 x1.1) x1.2 then(J0Q x1.1 none (some x1.2)).bind λe=>some (e,0)else some (x1.1,0)
def JaL(x:Int):Option (Int):=JDc x
def JaP(x1:Unit):Option (Bool):=(J87 (2,1)).bind λh=>(J62 ()).bind λg=>(J2E (h.1,1,g,0)).bind λe=>if eqI e.2 0 then if eqI e.1.1 1 then(JaL 8).bind λj=>some (eqI j 3)else some false else some false
def Jah:JOp->Option ((JOp)⊕((JOi)⊕Bool)):=fun(q,o,e,k,n,h,j,g)=>if ltI h n then(idx k h).bind λw=>(J2E (g.1,e,w,0)).bind λr=>if eqI r.2 0 then if neI r.1.1 e=false then(idx g.1.2.2.2.2.2.2.1 e).bind λv=>if ltI r.1.2.1 v.1=false then if gtI r.1.2.1 g.1.2.2.1.2.2 then Option.map .inr (some (.inr false))else some (.inl (q,o,e,k,n,J2 .i64 h 1,j,g))else Option.map .inr (some (.inr false))else Option.map .inr (some (.inr false))else some (.inl (q,o,e,k,n,J2 .i64 h 1,j,g))else some (.inr (.inl (q,o,J2 .i64 e 1,j,g)))
def Jag:JOi->Option ((JOi)⊕Bool):=fun(j,e,h,o,g)=>if ltI h g.1.1 then(J95 (g.2,h)).bind λn=>(J5Q (n.1,o)).bind λk=>Jc (Jah) (j,e,h,[n.1,e,j,k.1],J0 [n.1,e,j,k.1],0,k.2,g)else some (.inr true)
def J55(x1:(List Int)×(List UInt8)):Option (Bool):=(JaP ()).bind λk=>if Jr k=false then if gtI (J0 x1.2) 2000 then some (gtI (J0 x1.2) 2000)else(J7B (x1.1,400)).bind λj=>(J52 (25,true,j)).bind λe=>(Jn (e.1.1.1,e.2)).bind λn=>(J6R n).bind λg=>(J4b g.1).bind λh=>Jc (Jag) (x1.2,h.1,0,g.2,e.1)else some (gtI (J0 x1.2) 2000)
end
end Go.Am
end
section
namespace Go.Am
def Tot{ρ:Type}(o:Option ρ)(Q:ρ->Prop):Prop:= ∃r,o=some r/\Q r
section
variable {α β ρ σ τ:Type} {Q:ρ->Prop}
theorem Tot.bind{P:α->Prop}{o:Option α}{f:α->Option ρ}(h:Tot o P)(h2: ∀r,P r->Tot (f r) Q):Tot (o.bind f) Q:=by obtain⟨r,rfl,hq⟩:=h;exact h2 r hq
theorem Tot.some{r:ρ}(h:Q r):Tot (some r) Q:=⟨r,rfl,h⟩
theorem Tot.mono{P:ρ->Prop}{o:Option ρ}(h:Tot o P)(h2: ∀r,P r->Q r):Tot o Q:=by obtain⟨r,e,hq⟩:=h;exact⟨r,e,h2 r hq⟩
theorem Tot.map{P:α->Prop}{o:Option α}{f:α->ρ}(h:Tot o P)(h2: ∀r,P r->Q (f r)):Tot (Option.map f o) Q:=by obtain⟨r,rfl,hq⟩:=h;exact⟨f r,rfl,h2 r hq⟩
theorem Tot.get{o:Option ρ}{r:ρ}(h:Tot o Q)(e:o=Option.some r):Q r:=by obtain⟨r',e',h⟩:=h;rw[e]at e';injection e' with e';subst e';exact h
variable {u v:Option ρ}
theorem Tot.ite{c:Bool}(h1:c=true->Tot u Q)(h2:c=false->Tot v Q):Tot (if c=true then u else v) Q:=by
 cases c with
 |true=>exact h1 rfl
 |false=>exact h2 rfl
theorem Tot.itf{c:Bool}(h1:c=false->Tot u Q)(h2:c=true->Tot v Q):Tot (if c=false then u else v) Q:=by
 cases c with
 |true=>exact h2 rfl
 |false=>exact h1 rfl
theorem Tot.not{c:Bool}(h1:c=false->Tot u Q)(h2:c=true->Tot v Q):Tot (if Jr c=true then u else v) Q:=by
 cases c with
 |true=>exact h2 rfl
 |false=>exact h1 rfl
theorem Tot.nof{c:Bool}(h1:c=true->Tot u Q)(h2:c=false->Tot v Q):Tot (if Jr c=false then u else v) Q:=by
 cases c with
 |true=>exact h1 rfl
 |false=>exact h2 rfl
variable {a c:Int}
theorem Jbo:ltI a c=true↔a<c:=by simp[ltI]
theorem J9b:gtI a c=true↔c<a:=by simp[gtI]
theorem J65:leI a c=true↔a<=c:=by simp[leI]
theorem Js5:geI a c=true↔c<=a:=by simp[geI]
theorem JrW:eqI a c=true↔a=c:=by simp[eqI]
theorem Js7:neI a c=true↔ ¬a=c:=by simp[neI]
theorem Tot.by{p:Prop}{x:Bool}(hp:x=true↔p)(h1:p->Tot u Q)(h2: ¬p->Tot v Q):Tot (if x=true then u else v) Q:=.ite (λh=>h1 (hp.1 h)) λh=>h2 λh3=>by rw[hp.2 h3]at h;cases h
theorem Tot.byf{p:Prop}{x:Bool}(hp:x=true↔p)(h1: ¬p->Tot u Q)(h2:p->Tot v Q):Tot (if x=false then u else v) Q:=.itf (λh=>h1 λh3=>by rw[hp.2 h3]at h;cases h) λh=>h2 (hp.1 h)
theorem Tot.lt(h1:a<c->Tot u Q)(h2: ¬a<c->Tot v Q):Tot (if ltI a c=true then u else v) Q:=.by Jbo h1 h2
theorem Tot.gt(h1:c<a->Tot u Q)(h2: ¬c<a->Tot v Q):Tot (if gtI a c=true then u else v) Q:=.by J9b h1 h2
theorem Tot.le(h1:a<=c->Tot u Q)(h2: ¬a<=c->Tot v Q):Tot (if leI a c=true then u else v) Q:=.by J65 h1 h2
theorem Tot.ge(h1:c<=a->Tot u Q)(h2: ¬c<=a->Tot v Q):Tot (if geI a c=true then u else v) Q:=.by Js5 h1 h2
theorem Tot.eq(h1:a=c->Tot u Q)(h2: ¬a=c->Tot v Q):Tot (if eqI a c=true then u else v) Q:=.by JrW h1 h2
theorem Tot.ne(h1: ¬a=c->Tot u Q)(h2:a=c->Tot v Q):Tot (if neI a c=true then u else v) Q:=.by Js7 h1 (λh=>h2 (Decidable.of_not_not h))
theorem Tot.ltf(h1: ¬a<c->Tot u Q)(h2:a<c->Tot v Q):Tot (if ltI a c=false then u else v) Q:=.byf Jbo h1 h2
theorem Tot.gtf(h1: ¬c<a->Tot u Q)(h2:c<a->Tot v Q):Tot (if gtI a c=false then u else v) Q:=.byf J9b h1 h2
theorem Tot.lef(h1: ¬a<=c->Tot u Q)(h2:a<=c->Tot v Q):Tot (if leI a c=false then u else v) Q:=.byf J65 h1 h2
theorem Tot.gef(h1: ¬c<=a->Tot u Q)(h2:c<=a->Tot v Q):Tot (if geI a c=false then u else v) Q:=.byf Js5 h1 h2
theorem Tot.eqf(h1: ¬a=c->Tot u Q)(h2:a=c->Tot v Q):Tot (if eqI a c=false then u else v) Q:=.byf JrW h1 h2
theorem Tot.nef(h1:a=c->Tot u Q)(h2: ¬a=c->Tot v Q):Tot (if neI a c=false then u else v) Q:=.byf Js7 (λh=>h1 (Decidable.of_not_not h)) h2
end
def Ty.fit(B S:Int):(t:Ty)->t.D->Prop
 | .b,_=>True
 | .i k,z=>k.min<=z/\z<=k.max
 | .s,z=>J0 (α:=UInt8) z<=S
 | .l t,z=>J0 (α:=t.D) z<=B/\ ∀x∈(z:List t.D),t.fit B S x
 | .pr a c,x=>a.fit B S x.1/\c.fit B S x.2
 | .ar n t,v=> ∀(i:Nat) (h:i<n),t.fit B S ((v:Vector t.D n)[i])
 | .u,_=>True
 | .f,_=>True
theorem Ty.fit.up{B S g e:Int}(h1:B<=g)(h2:S<=e): ∀{t:Ty} {x:t.D},t.fit B S x->t.fit g e x
 | .b,_,_=>trivial
 | .i _,_,h=>h
 | .s,_,h=>Jfi h h2
 | .l _,_,h=>⟨Jfi h.1 h1,λx hx=>(h.2 x hx).up h1 h2⟩
 | .pr _ _,_,h=>⟨h.1.up h1 h2,h.2.up h1 h2⟩
 | .ar _ _,_,h=>λi hi=>(h i hi).up h1 h2
 | .u,_,_=>trivial
 | .f,_,_=>trivial
section
variable {α:Type} {l:List α}
theorem J4:0<=J0 l:=Int.natCast_nonneg _
theorem J98:J0 ([]:List α)=0:=rfl
theorem JfP{x:α}:J0 [x]=1:=rfl
theorem Jux{m:List α}:J0 (l++m)=J0 l+J0 m:=by simp[J0]
end
theorem JqK(n:Int):IntKind.i64.wrap n=(n+9223372036854775808)%18446744073709551616-9223372036854775808:=by simp[IntKind.wrap,IntKind.bits,IntKind.signed];omega
theorem J9h(k:IntKind)(n:Int):k.min<=k.wrap n/\k.wrap n<=k.max:=by cases k<;>simp[IntKind.wrap,IntKind.min,IntKind.max,IntKind.bits,IntKind.signed]<;>omega
theorem Jf(a b:Int):J2 .i64 a b=(a+b+9223372036854775808)%18446744073709551616-9223372036854775808:=JqK _
theorem J0y(a b:Int):JI .i64 a b=(a-b+9223372036854775808)%18446744073709551616-9223372036854775808:=JqK _
theorem JKH(a b:Int):J20 .i64 a b=(a*b+9223372036854775808)%18446744073709551616-9223372036854775808:=JqK _
theorem JKG(a:Int):cvI .i64 a=(a+9223372036854775808)%18446744073709551616-9223372036854775808:=JqK _
section
variable {B S:Int} {k:IntKind} {a b:Int}
theorem J1:Ty.fit B S (.i .i64) a↔ -9223372036854775808<=a/\a<=9223372036854775807:=by simp[Ty.fit,IntKind.min,IntKind.max,IntKind.signed,IntKind.bits]
theorem JaN(k:IntKind)(n:Int)(h:k.min<=n/\n<=k.max:=by decide):Ty.fit B S (.i k) n:=h
theorem J7:Ty.fit B S (.i k) (J2 k a b):=J9h _ _
theorem J0Y:Ty.fit B S (.i k) (JI k a b):=J9h _ _
theorem JQk:Ty.fit B S (.i k) (J20 k a b):=J9h _ _
theorem Jal:Ty.fit B S (.i k) (cvI k a):=J9h _ _
theorem cvu(k:IntKind)(a:Int)(h:k.min=0:=by rfl):0<=cvI k a:=by have:=(J9h k a).1;rw[h]at this;exact this
theorem JMP:Ty.fit B S (.i k) (orI k a b):=J9h _ _
theorem Jfb:Ty.fit B S (.i k) (J4f k a b):=J9h _ _
theorem JKq:Ty.fit B S (.i k) (JKw k a):=J9h _ _
theorem JQv(ha:Ty.fit B S (.i k) a)(hb:Ty.fit B S (.i k) b):Ty.fit B S (.i k) (JbE a b):=by
 unfold JbE;split
 ·exact hb
 ·exact ha
theorem J4w(ha:Ty.fit B S (.i k) a)(hb:Ty.fit B S (.i k) b):Ty.fit B S (.i k) (J4a a b):=by
 unfold J4a;split
 ·exact hb
 ·exact ha
theorem J3M{α:Type}{l:List α}{n:Int}(h:J0 l<=n)(hn:n<=9223372036854775807):Ty.fit B S (.i .i64) (J0 l):=by have:=J4 (l:=l);rw[J1];omega
theorem Jb{t:Ty}(e:0<=B:=by omega):Ty.fit B S (.l t) ([]:List t.D):=⟨e,λ_ h=>by cases h⟩
theorem J0n{t:Ty}{x:t.D}(e:1<=B)(h:t.fit B S x):Ty.fit B S (.l t) ([x]:List t.D):=⟨e,λy hy=>by
 obtain rfl:y=x:=by simpa using hy
 exact h⟩
theorem J0H{t:Ty}{x:t.D}{l:List t.D}(e:J0 (x::l)<=B)(h:t.fit B S x)(hl:Ty.fit B S (.l t) l):Ty.fit B S (.l t) (x::l):=⟨e,λy hy=>by
 rcases J3i.1 hy with rfl|hy
 ·exact h
 ·exact hl.2 y hy⟩
theorem JGh:Ty.fit B S (.i .u8) a↔0<=a/\a<=255:=by simp[Ty.fit,IntKind.min,IntKind.max,IntKind.signed,IntKind.bits]
theorem JC(g:0<=B)(e:0<=S): ∀t:Ty,t.fit B S t.zero
 | .b=>trivial
 | .i k=>by cases k<;>simp[Ty.fit,Ty.zero,IntKind.min,IntKind.max,IntKind.signed,IntKind.bits]
 | .s=>e
 | .l _=>Jb g
 | .pr a c=>⟨JC g e a,JC g e c⟩
 | .ar n t=>λi hi=>by
   show t.fit B S ((Vector.replicate n t.zero)[i]);rw[Vector.getElem_replicate];exact JC g e t
 | .u=>trivial
 | .f=>trivial
end
theorem Jm{B S:Int}{t:Ty}{l:List t.D}(_:Ty.fit B S (.l t) l): @J0 t.D l= @J0 t.D l:=rfl
section
variable {B S:Int} {t:Ty}
theorem Jg{l:List t.D}{i:Int}(h:Ty.fit B S (.l t) l)(g:0<=i:=by omega)(h1:i<J0 l:=by omega):Tot (idx l i) λr=>t.fit B S r/\r∈l:=by
 have e:i.toNat<l.length:=by unfold J0 at h1;omega
 refine⟨l[i.toNat],?_,h.2 _ (Jgq e),Jgq e⟩;unfold idx;rw[if_pos g,JK e]
theorem JHm{n bytes:Nat}(h:(n:Int)<=34359738368)(hb:bytes<=2048):JaR n bytes=true:=by unfold JaR;rw[decide_eq_true_eq];have:(2*n+512)*bytes<=(2*34359738368+512)*2048:=Nat.mul_le_mul (by omega) hb;omega
theorem J0K{bytes:Nat}{l m:List t.D}{Bl Bm:Int}(k n:Int)(hl:Ty.fit Bl S (.l t) l)(hm:Ty.fit Bm S (.l t) m)(hk:J0 l=k:=by rfl)(hn:J0 m=n:=by rfl)(h1:Bl<=B:=by omega)(h2:Bm<=B:=by omega)(h3:k+n<=B:=by omega)(e:B<=34359738368:=by omega)(hb:bytes<=2048:=by decide):
  Tot (JN bytes l m) λr=>Ty.fit B S (.l t) r/\J0 r=k+n/\r=l++m:=by
 subst hn hk;refine⟨l++m,?_,⟨by rw[Jux];exact h3,λx hx=>?_⟩,Jux,rfl⟩
 ·unfold JN;rw[if_pos (JHm (by unfold J0 at h3;omega) hb)]
 ·rcases J2a.1 hx with h|h
  ·exact(hl.2 x h).up h1 (J0U _)
  ·exact(hm.2 x h).up h2 (J0U _)
theorem Jxa{bytes:Nat}{l:List t.D}(hl:Ty.fit B S (.l t) l)(e:B<=34359738368)(hb:bytes<=2048):Tot (J3g bytes l) λr=>r=l:=by refine⟨l,?_,rfl⟩;unfold J3g;rw[if_pos (JHm (by have:=hl.1;unfold J0 at this;omega) hb)]
theorem JLn{α:Type}{l:List α}{k:Int}(e:0<=k)(h1:k<=J0 l):Tot (J0Q l none (some k)) λr=>r=l.take k.toNat/\J0 r=k:=by
 refine⟨l.take k.toNat,?_,rfl,?_⟩
 ·unfold J0Q Jum JxX;unfold J0 at h1;simp only[if_pos (And.intro e h1)];simp
 ·unfold J0 at*;rw[Jiy];omega
theorem JEN{α:Type}{l:List α}{k:Int}(e:0<=k)(h1:k<=J0 l):Tot (J0Q l (some k) none) λr=>r=l.drop k.toNat/\J0 r=J0 l-k:=by
 refine⟨l.drop k.toNat,?_,rfl,?_⟩
 ·unfold J0Q Jum JxX;unfold J0 at h1;simp only[if_pos (And.intro e h1)];rw[List.take_of_length_le];simp
 ·unfold J0 at*;rw[JfJ];omega
theorem JS5{α:Type}{l:List α}{j k:Int}(g:0<=j)(h2:j<=k)(h1:k<=J0 l):Tot (J0Q l (some j) (some k)) λr=>r=(l.drop j.toNat).take (k-j).toNat/\J0 r=k-j:=by
 refine⟨(l.drop j.toNat).take (k-j).toNat,?_,rfl,?_⟩
 ·unfold J0Q Jum JxX;unfold J0 at h1;have hk:0<=k:=by omega
  have e:j<=(k.toNat:Int):=by omega
  simp only[if_pos (And.intro hk h1),if_pos (And.intro g e)];have:k.toNat-j.toNat=(k-j).toNat:=by omega
  rw[this]
 ·unfold J0 at*;rw[Jiy,JfJ];omega
theorem JOh{l:List t.D}{n:Nat}(h:Ty.fit B S (.l t) l):Ty.fit B S (.l t) (l.take n):=⟨by have:=h.1;unfold J0 at*;rw[Jiy];omega,λx hx=>h.2 x (JMk hx)⟩
theorem JOX{l:List t.D}{n:Nat}(h:Ty.fit B S (.l t) l):Ty.fit B S (.l t) (l.drop n):=⟨by have:=h.1;unfold J0 at*;rw[JfJ];omega,λx hx=>h.2 x (JLS hx)⟩
theorem J3u{a b:List UInt8}(h:J0 a+J0 b<=4611686018427387904:=by omega):Tot (J3Y a b) λr=>J0 r=J0 a+J0 b/\r=a++b:=by refine⟨a++b,?_,Jux,rfl⟩;unfold J3Y;unfold J0 at h;rw[if_pos (by omega)]
theorem JEQ{bytes:Nat}{n m:Int}{z:t.D}(hz:t.fit B S z)(e:0<=n:=by omega)(h1:n<=m:=by omega)(h2:m<=34359738368:=by omega)(hn:n<=B:=by omega)(hb:bytes<=2048:=by decide):Tot (mkS bytes n m z) λr=>Ty.fit B S (.l t) r/\J0 r=n:=by
 refine⟨List.replicate n.toNat z,?_,⟨?_,λx hx=>?_⟩,?_⟩
 ·unfold mkS;have:(bytes:Int)*m<=2048*34359738368:=Jfi (Int.mul_le_mul_of_nonneg_right (by omega) (by omega)) (Int.mul_le_mul_of_nonneg_left h2 (by omega));rw[if_pos ⟨e,h1,by omega,by omega⟩]
 ·unfold J0;rw[JlR];omega
 ·rw[List.eq_of_mem_replicate hx];exact hz
 ·unfold J0;rw[JlR];omega
theorem JTB{x y:Int}(h: ¬y=0):Tot (Jqg x y) λr=>r=x.tmod y:=⟨_,by unfold Jqg;rw[if_neg h],rfl⟩
theorem JTb{k:IntKind}{x y:Int}(h:0<=y):Tot (Jru k x y) λr=>r=k.wrap (x*2^(min y.toNat k.bits)):=⟨_,by unfold Jru;rw[if_neg (by omega)],rfl⟩
theorem JQ2{k:IntKind}{x y:Int}(h:0<=y):Tot (JbG k x y) λr=>r=x.fdiv (2^(min y.toNat k.bits)):=⟨_,by unfold JbG;rw[if_neg (by omega)],rfl⟩
theorem JME{n:Nat}{v:Vector t.D n}{i:Int}(h:Ty.fit B S (.ar n t) v)(g:0<=i:=by omega)(h1:i<n:=by omega):Tot (JrE v i) λr=>t.fit B S r:=by
 have e:i.toNat<n:=by omega
 refine⟨v[i.toNat],?_,h _ e⟩;unfold JrE;rw[if_pos ⟨g,h1⟩,Vector.getElem?_eq_getElem e]
theorem J4n{n:Nat}{i:Int}(e:0<=i:=by omega)(h1:i<n:=by omega):Tot (inb n i) λ_=>True:=⟨(),by unfold inb;rw[if_pos ⟨e,h1⟩],trivial⟩
theorem JeQ{l:List t.D}{i:Int}(h:Ty.fit B S (.l t) l)(g:0<=i:=by omega)(h1:i<J0 l:=by omega):Tot (lat l i.toNat) λr=>t.fit B S r/\r∈l:=by
 have e:i.toNat<l.length:=by unfold J0 at h1;omega
 exact⟨l[i.toNat],by unfold lat;rw[JK e],h.2 _ (Jgq e),Jgq e⟩
theorem J7u{n:Nat}{v:Vector t.D n}{i:Nat}(h:Ty.fit B S (.ar n t) v)(h1:i<n:=by omega):Tot (vat v i) λr=>t.fit B S r:=
 ⟨v[i],by unfold vat;rw[Vector.getElem?_eq_getElem h1],h _ h1⟩
theorem J4E{l:List t.D}{i:Nat}{x:t.D}(h:Ty.fit B S (.l t) l)(hx:t.fit B S x):Ty.fit B S (.l t) (J0w l i x):=⟨by
 have:=h.1;unfold J0w J0 at*;rw[List.length_set];exact this,λy hy=>by
 rcases Jyy hy with h1|rfl
 ·exact h.2 y h1
 ·exact hx⟩
theorem J6L{α:Type}{l:List α}{i:Nat}{x:α}:J0 (J0w l i x)=J0 l:=by unfold J0w J0;rw[List.length_set]
theorem JaZ{n:Nat}{v:Vector t.D n}{i:Nat}{x:t.D}(h:Ty.fit B S (.ar n t) v)(hx:t.fit B S x):Ty.fit B S (.ar n t) (J9U v i x):=λj hj=>by
 unfold J9U;show t.fit B S ((v.setIfInBounds i x)[j]);rw[Vector.getElem_setIfInBounds];split
 ·exact hx
 ·exact h j hj
theorem JrY{l:List UInt8}{i:Int}(g:0<=i:=by omega)(h1:i<J0 l:=by omega):Tot (Jgk l i) λr=>0<=r/\r<=255:=by
 have e:i.toNat<l.length:=by unfold J0 at h1;omega
 refine⟨(l[i.toNat].toNat:Int),?_,by omega,?_⟩
 ·unfold Jgk;rw[if_pos g,JK e]
 ·have:=l[i.toNat].toNat_lt;omega
theorem JMU{l:List UInt8}:J0 (toByt l)=J0 l:=by unfold toByt J0;rw[J1P]
theorem J4s{l:List Int}:J0 (toStr l)=J0 l:=by unfold toStr J0;rw[J1P]
end
theorem Ty.fit.u{B S g e:Int}{t:Ty}{x:t.D}(h:t.fit B S x)(h1:B<=g:=by omega)(h2:S<=e:=by omega):t.fit g e x:=h.up h1 h2
theorem Tot.inr{σ ρ:Type}{o:Option ρ}{Q:σ⊕ρ->Prop}(h:Tot o λy=>Q (.inr y)):Tot (Option.map .inr o) Q:=h.map λ_ h=>h
section
variable {B S:Int} {t:Ty}
theorem Tot.clo{ρ:Type}{Q:ρ->Prop}{bytes:Nat}{l:List t.D}{f:List t.D->Option ρ}(hl:Ty.fit B S (.l t) l)(g:B<=34359738368)(hb:bytes<=2048)(h:Tot (f l) Q):Tot ((J3g bytes l).bind f) Q:=
 .bind (Jxa hl g hb) λr e=>by subst e;exact h
theorem Jqm{α:Type}{x:α}{l:List α}:J0 (x::l)=J0 l+1:=by simp[J0]
theorem Jd(h:0<=S:=by omega):Ty.fit B S .s ([]:List UInt8):=h
theorem Jqp{l:List UInt8}(n:Int)(h:J0 l=n)(h2:n<=S):Ty.fit B S .s l:=by show J0 l<=S;omega
theorem J6p{α:Type}{l:List α}{i:Int}(e:0<=i:=by omega)(h1:i<J0 l:=by omega):Tot (inb l.length i) λ_=>True:=J4n e h1
theorem J97{l:List t.D}{k:Int}(h:Ty.fit B S (.l t) l)(g:0<=k:=by omega)(h1:k<=J0 l:=by omega):Tot (J0Q l none (some k)) λr=>Ty.fit B S (.l t) r/\J0 r=k:=
 (JLn g h1).mono λ_ ⟨e,h2⟩=>⟨e▸JOh h,h2⟩
theorem J6A{l:List t.D}{k:Int}(h:Ty.fit B S (.l t) l)(g:0<=k:=by omega)(h1:k<=J0 l:=by omega):Tot (J0Q l (some k) none) λr=>Ty.fit B S (.l t) r/\J0 r=J0 l-k:=
 (JEN g h1).mono λ_ ⟨e,h2⟩=>⟨e▸JOX h,h2⟩
theorem J7T{l:List UInt8}{k:Int}(h:J0 l<=S)(e:0<=k:=by omega)(h1:k<=J0 l:=by omega):Tot (J0Q l none (some k)) λr=>J0 r<=S/\J0 r=k:=
 (JLn e h1).mono λ_ ⟨_,h2⟩=>⟨by omega,h2⟩
theorem Jgn{l:List UInt8}{k:Int}(h:J0 l<=S)(e:0<=k:=by omega)(h1:k<=J0 l:=by omega):Tot (J0Q l (some k) none) λr=>J0 r<=S/\J0 r=J0 l-k:=
 (JEN e h1).mono λ_ ⟨_,h2⟩=>⟨by omega,h2⟩
theorem JcQ{l:List UInt8}{j k:Int}(h:J0 l<=S)(e:0<=j:=by omega)(h2:j<=k:=by omega)(h1:k<=J0 l:=by omega):Tot (J0Q l (some j) (some k)) λr=>J0 r<=S/\J0 r=k-j:=
 (JS5 e h2 h1).mono λ_ ⟨_,h3⟩=>⟨by omega,h3⟩
theorem Je1{l:List Int}(h:J0 l<=S):Ty.fit B S .s (toStr l):=by show J0 (toStr l)<=S;rw[J4s];exact h
theorem Jz6(a b:Int):JbE a b<=a/\JbE a b<=b/\(JbE a b=a\/JbE a b=b):=by unfold JbE;split<;>omega
theorem Jjv(a b:Int):a<=J4a a b/\b<=J4a a b/\(J4a a b=a\/J4a a b=b):=by unfold J4a;split<;>omega
theorem JJI{x y:Int}(h:0<=x):x.tmod y<=x:=by
 obtain⟨m,rfl⟩:=Int.eq_ofNat_of_zero_le h;cases y with
 |ofNat n=>show((m%n:Nat):Int)<=m;exact Int.ofNat_le.2 (Nat.mod_le _ _)
 |negSucc n=>show((m%(n+1):Nat):Int)<=m;exact Int.ofNat_le.2 (Nat.mod_le _ _)
theorem JQL{x y:Int}:(0<=x->0<=x.tmod y)/\(0<y->x.tmod y<y)/\(x<=0->x.tmod y<=0)/\(0<=x->x.tmod y<=x)/\(x<=0->x<=x.tmod y):=by
 refine⟨λh=>Int.tmod_nonneg _ h,λh=>Int.tmod_lt_of_pos _ h,λh=>?_,λh=>?_,λh=>?_⟩
 ·have:=Int.tmod_nonneg (a:= -x) y (by omega);rw[Int.neg_tmod]at this;omega
 ·exact JJI h
 ·have h2:(-x).tmod y<= -x:=JJI (by omega);rw[Int.neg_tmod]at h2;omega
theorem JEl{k:IntKind}{x y:Int}(hx:Ty.fit B S (.i k) x)(h: ¬y=0):Tot (Jqg x y) λr=>Ty.fit B S (.i k) r/\((0<=x->0<=r)/\(0<y->r<y)):=
 (JTB h).mono λr e=>by
  subst e;obtain⟨h1,h2,h3,h4,h5⟩:=JQL (x:=x) (y:=y);refine⟨?_,h1,h2⟩;have hz:k.min<=0/\0<=k.max:=by cases k<;>simp[IntKind.min,IntKind.max,IntKind.bits,IntKind.signed]
  obtain⟨q1,q2⟩:k.min<=x/\x<=k.max:=hx;show k.min<=x.tmod y/\x.tmod y<=k.max;rcases Int.le_total 0 x with h|h
  ·have:=h1 h;have:=h4 h;omega
  ·have:=h3 h;have:=h5 h;omega
theorem JNJ{k:IntKind}{x y:Int}(h:0<=y):Tot (Jru k x y) λr=>Ty.fit B S (.i k) r:=(JTb h).mono λr e=>e▸J9h _ _
theorem JQe{k:IntKind}{x:Int}{n:Nat}(hx:Ty.fit B S (.i k) x):Ty.fit B S (.i k) (x.fdiv (2^n)):=by
 have hp:(0:Int)<2^n:=Int.pow_pos (by decide);have hz:k.min<=0/\0<=k.max:=by cases k<;>simp[IntKind.min,IntKind.max,IntKind.bits,IntKind.signed]
 obtain⟨q1,q2⟩:k.min<=x/\x<=k.max:=hx;show k.min<=x.fdiv (2^n)/\x.fdiv (2^n)<=k.max;rw[Int.fdiv_eq_ediv_of_nonneg _ (Int.le_of_lt hp)];rcases Int.le_total 0 x with h|h
 ·have h1:=Int.ediv_nonneg h (Int.le_of_lt hp);have h2:=Int.ediv_le_self (2^n:Int) h;omega
 ·have h1:x/(2^n)<=0:=by
   have:=Int.ediv_le_ediv hp h;rwa[Int.zero_ediv]at this
  have h2:x<=x/(2^n):=by rw[Int.le_ediv_iff_mul_le hp];have:x*(2^n)<=x*1:=Int.mul_le_mul_of_nonpos_left h (by omega);omega
  omega
theorem JfV{k:IntKind}{x y:Int}(hx:Ty.fit B S (.i k) x)(h:0<=y):Tot (JbG k x y) λr=>Ty.fit B S (.i k) r:=(JQ2 h).mono λr e=>e▸JQe hx
end
theorem Ja{σ τ ρ:Type}{L:σ->Option (σ⊕ρ)}{Q:ρ->Prop}(e:τ->σ)(I:τ->Prop)(m:τ->Int)
  (h: ∀c,I c->Tot (L (e c)) λr=>match r with| .inl z=> ∃c',z=e c'/\I c'/\m c'<m c/\0<=m c| .inr y=>Q y) {z:σ} (c:τ) (hz:z=e c) (g:I c):Tot (Jc L z) Q:=by
 subst hz;have j: ∀(n:Nat) (c:τ),(m c+1).toNat<n->I c->Tot (Jc L (e c)) Q:=by
  intro n
  induction n with
  |zero=>intro c h1;omega
  |succ n ih=>
   intro c h1 g;obtain⟨r,h2,h3⟩:=h c g;cases r with
   |inl z=>
    obtain⟨c',rfl,h4,h5,k⟩:=h3;rw[Jf4 h2];exact ih c' (by omega) h4
   |inr y=>rw[J2z h2];exact⟨y,rfl,h3⟩
 exact j _ c (Nat.lt_succ_self _) g
theorem JKQ(x m:Int)(g:0<=m:=by decide)(hm:m<4294967296:=by decide):0<=JiA .u32 x m/\JiA .u32 x m<=m:=by
 have e:JiA .u32 x m=IntKind.wrap .u32 (((BitVec.ofInt 32 x&&&BitVec.ofInt 32 m).toNat:Nat):Int):=rfl;have h2:(BitVec.ofInt 32 m).toNat=m.toNat:=by rw[BitVec.toNat_ofInt];omega
 have h3:(BitVec.ofInt 32 x&&&BitVec.ofInt 32 m).toNat<=m.toNat:=by rw[BitVec.toNat_and,h2];exact Nat.and_le_right
 generalize (BitVec.ofInt 32 x&&&BitVec.ofInt 32 m).toNat=z at e h3;have h4:IntKind.wrap .u32 (z:Int)=(z:Int)%4294967296:=rfl;rw[e,h4];omega
theorem om{p:Prop}(h:p:=by first|omega|(dsimp only;omega)|(simp only[J98,JfP]<;>omega)):p:=h
abbrev BS(B S b s:Int):Prop:=b<=B/\s<=S
theorem fk0{B S:Int}:Ty.fit B S (.i .i64) 0:=JaN .i64 0
theorem fkn{B S:Int}(n:Int)(h:IntKind.i64.min<=n/\n<=IntKind.i64.max:=by decide):Ty.fit B S (.i .i64) n:=h
abbrev BC(B S b s:Int):Prop:=b<=B/\s<=S/\B<=4611686018427387903
abbrev BH(B S:Int):Prop:=16384<=B/\1073741824<=S
abbrev BG(B S:Int):Prop:=16384<=B/\1073741824<=S/\B<=4611686018427387903
theorem fzr{B S:Int}{t:Ty}{x:t.D}(e:x=t.zero:=by rfl)(h:0<=B:=by omega)(h2:0<=S:=by omega):Ty.fit B S t x:=e▸JC h h2 t
def Ty.nl:Ty->Bool
 | .l _=>false
 | .pr a c=>a.nl&&c.nl
 | .ar _ t=>t.nl
 |_=>true
theorem Ty.fit.z'{B S:Int}: ∀{t:Ty} {x:t.D},t.nl=true->Ty.fit B S t x->Ty.fit 0 S t x
 | .b,_,_,_=>trivial
 | .i _,_,_,h=>h
 | .s,_,_,h=>h
 | .l _,_,n,_=>by cases n
 | .pr a c,_,n,h=>by
   have n:(a.nl&&c.nl)=true:=n;rw[J02]at n;exact⟨Ty.fit.z' n.1 h.1,Ty.fit.z' n.2 h.2⟩
 | .ar _ _,_,n,h=>λi hi=>Ty.fit.z' n (h i hi)
 | .u,_,_,_=>trivial
 | .f,_,_,_=>trivial
theorem Ty.fit.z{B S:Int}{t:Ty}{x:t.D}(h:Ty.fit B S t x)(n:t.nl=true:=by rfl):Ty.fit 0 S t x:=Ty.fit.z' n h
theorem omc{p q:Prop}(o:q)(h:q->p:=by intro o;first|omega|(dsimp only;omega)|(simp only[J98,JfP]<;>omega)):p:=h o
theorem oo{p:Prop}(h:p:=by omega):p:=h
end Go.Am
end
section
namespace Go.Am
theorem Tot.eqn{ρ:Type}{o:Option ρ}{Q:ρ->Prop}(h:Tot o Q):Tot o λr=>Q r/\o=Option.some r:=by obtain⟨r,e,h⟩:=h;exact⟨r,e,h,e⟩
theorem Tot.same{α ρ:Type}{o:Option α}{f:α->Option ρ}{w:α}{Q:ρ->Prop}(e:o=Option.some w)(h:Tot (f w) Q):Tot (o.bind f) Q:=by rw[e];exact h
def Par{ρ:Type}(o:Option ρ)(Q:ρ->Prop):Prop:= ∀r,o=Option.some r->Q r
section
variable {α β ρ σ:Type} {Q:ρ->Prop} {u v:Option ρ}
theorem Par.bind{o:Option α}{f:α->Option ρ}(h: ∀a,o=Option.some a->Par (f a) Q):Par (o.bind f) Q:=by
 intro r hr;cases o with
 |none=>cases hr
 |some a=>exact h a rfl r hr
theorem Par.map{o:Option α}{f:α->ρ}(h:Par o λa=>Q (f a)):Par (Option.map f o) Q:=by
 intro r hr;cases o with
 |none=>cases hr
 |some a=>injection hr with hr;subst hr;exact h a rfl
theorem Par.some{r:ρ}(h:Q r):Par (Option.some r) Q:=by intro r' e;injection e with e;subst e;exact h
theorem Par.none:Par (Option.none:Option ρ) Q:=by intro r e;cases e
theorem Par.mono{o:Option ρ}{P:ρ->Prop}(h:Par o P)(h2: ∀r,P r->Q r):Par o Q:=λr e=>h2 r (h r e)
theorem Par.ite{c:Bool}(h1:c=true->Par u Q)(h2:c=false->Par v Q):Par (if c=true then u else v) Q:=by
 cases c with
 |true=>exact h1 rfl
 |false=>exact h2 rfl
theorem Par.itf{c:Bool}(h1:c=false->Par u Q)(h2:c=true->Par v Q):Par (if c=false then u else v) Q:=by
 cases c with
 |true=>exact h2 rfl
 |false=>exact h1 rfl
theorem Par.not{c:Bool}(h1:c=false->Par u Q)(h2:c=true->Par v Q):Par (if Jr c=true then u else v) Q:=by
 cases c with
 |true=>exact h2 rfl
 |false=>exact h1 rfl
theorem Par.nof{c:Bool}(h1:c=true->Par u Q)(h2:c=false->Par v Q):Par (if Jr c=false then u else v) Q:=by
 cases c with
 |true=>exact h1 rfl
 |false=>exact h2 rfl
variable {a c:Int}
theorem Par.by{p:Prop}{x:Bool}(hp:x=true↔p)(h1:p->Par u Q)(h2: ¬p->Par v Q):Par (if x=true then u else v) Q:=.ite (λh=>h1 (hp.1 h)) λh=>h2 λh3=>by rw[hp.2 h3]at h;cases h
theorem Par.byf{p:Prop}{x:Bool}(hp:x=true↔p)(h1: ¬p->Par u Q)(h2:p->Par v Q):Par (if x=false then u else v) Q:=.itf (λh=>h1 λh3=>by rw[hp.2 h3]at h;cases h) λh=>h2 (hp.1 h)
theorem Par.lt(h1:a<c->Par u Q)(h2: ¬a<c->Par v Q):Par (if ltI a c=true then u else v) Q:=.by Jbo h1 h2
theorem Par.gt(h1:c<a->Par u Q)(h2: ¬c<a->Par v Q):Par (if gtI a c=true then u else v) Q:=.by J9b h1 h2
theorem Par.le(h1:a<=c->Par u Q)(h2: ¬a<=c->Par v Q):Par (if leI a c=true then u else v) Q:=.by J65 h1 h2
theorem Par.ge(h1:c<=a->Par u Q)(h2: ¬c<=a->Par v Q):Par (if geI a c=true then u else v) Q:=.by Js5 h1 h2
theorem Par.eq(h1:a=c->Par u Q)(h2: ¬a=c->Par v Q):Par (if eqI a c=true then u else v) Q:=.by JrW h1 h2
theorem Par.ne(h1: ¬a=c->Par u Q)(h2:a=c->Par v Q):Par (if neI a c=true then u else v) Q:=.by Js7 h1 (λh=>h2 (Decidable.of_not_not h))
theorem Par.ltf(h1: ¬a<c->Par u Q)(h2:a<c->Par v Q):Par (if ltI a c=false then u else v) Q:=.byf Jbo h1 h2
theorem Par.gtf(h1: ¬c<a->Par u Q)(h2:c<a->Par v Q):Par (if gtI a c=false then u else v) Q:=.byf J9b h1 h2
theorem Par.lef(h1: ¬a<=c->Par u Q)(h2:a<=c->Par v Q):Par (if leI a c=false then u else v) Q:=.byf J65 h1 h2
theorem Par.gef(h1: ¬c<=a->Par u Q)(h2:c<=a->Par v Q):Par (if geI a c=false then u else v) Q:=.byf Js5 h1 h2
theorem Par.eqf(h1: ¬a=c->Par u Q)(h2:a=c->Par v Q):Par (if eqI a c=false then u else v) Q:=.byf JrW h1 h2
theorem Par.nef(h1:a=c->Par u Q)(h2: ¬a=c->Par v Q):Par (if neI a c=false then u else v) Q:=.byf Js7 (λh=>h1 (Decidable.of_not_not h)) h2
theorem Par.while{L:σ->Option (σ⊕ρ)}(I:σ->Prop){z:σ}(hz:I z)(h: ∀z,I z->Par (L z) λr=>match r with| .inl g=>I g| .inr y=>Q y):Par (Jc L z) Q:=by intro r hr;refine Jrp (P:=λs r=>I s->Q r) (λs r e hs=>h s hs _ e) (λs s' r e ih hs=>ih (h s hs _ e)) hr hz
end
theorem J5G{α:Type}{l:List α}{i:Int}{r:α}(h:idx l i=Option.some r):0<=i/\l[i.toNat]?=Option.some r:=by
 unfold idx at h;split at h
 ·exact⟨by assumption,h⟩
 ·cases h
theorem JgE{α:Type}{l:List α}{j:Nat}{e:α}(h:l[j]?=some e):(j:Int)<J0 l:=by obtain⟨h,_⟩:=J9N.1 h;unfold J0;omega
theorem JGa(a b:Int):J20 .i64 a b=a*b\/a*b< -9223372036854775808\/9223372036854775807<a*b:=by have h:J20 .i64 a b=(a*b+9223372036854775808)%18446744073709551616-9223372036854775808:=JqK _;rw[h];generalize a*b=c;omega
theorem J99(a b:Int):J2 .i64 a b=a+b\/a+b< -9223372036854775808\/9223372036854775807<a+b:=by rw[Jf];omega
theorem Ju5(a b:Int):JI .i64 a b=a-b\/a-b< -9223372036854775808\/9223372036854775807<a-b:=by rw[J0y];omega
end Go.Am
end
section
namespace Go.Am
def Fw{α:Type}(o e:Option α):Prop:= ∀y,o=some y->e=some y
variable {α β σ τ ρ:Type}
theorem Fw.rfl{o:Option α}:Fw o o:=λ_ h=>h
theorem Fw.of{o g:Option α}(h:o=g):Fw o g:=λ_ e=>h▸e
theorem Fw.ite{c v:Bool}{a b e g:Option α}(h1:c=v->Fw a e)(h2: ¬c=v->Fw b g):Fw (if c=v then a else b) (if c=v then e else g):=by
 by_cases h:c=v
 ·rw[if_pos h,if_pos h];exact h1 h
 ·rw[if_neg h,if_neg h];exact h2 h
theorem Fw.bind{o j:Option α}{f g:α->Option β}(h:Fw o j)(k: ∀y,o=some y->Fw (f y) (g y)):Fw (o.bind f) (j.bind g):=λr e=>by obtain⟨y,h1,h2⟩:=J25.1 e;rw[h y h1];exact k y h1 r h2
theorem Fw.while{L:σ->Option (σ⊕ρ)}{M:τ->Option (τ⊕ρ)}(R:σ->τ->Prop)
  (h: ∀a b,R a b-> ∀r,L a=some r->match r with| .inl k=> ∃g,M b=some (.inl g)/\R k g| .inr y=>M b=some (.inr y)) {z:σ} {j:τ} (hz:R z j):Fw (Jc L z) (Jc M j):=λy hy=>by
 refine Jrp (P:=λs r=> ∀b,R s b->Jc M b=some r) (λs r e b hb=>J2z (h s b hb _ e)) (λs s' r e ih b hb=>?_) hy j hz;obtain⟨g,e2,h2⟩:=h s b hb _ e;rw[Jf4 e2];exact ih g h2
end Go.Am
end
section
namespace Go.Am
set_option linter.unusedVariables false
set_option maxRecDepth 20000
set_option maxHeartbeats 4000000
section
variable {B S:Int}
theorem JsC{x:J1y}(e:J1V x=some true):J0 x.2<=12:=by
 have g:Par (J1V x) λy=>y=true->J0 x.2<=12:=by unfold J1V;exact .le (λc r _ _=>c) λ_=>.some nofun
 exact g _ e rfl
theorem JCL{x:Jy}(e:J1X x=some true): ∀(j:Nat) (hj:j<16),J0 (x.2.2[j]).2<=12:=by
 have k:Par (J1X x) λy=>y=true-> ∀(j:Nat) (hj:j<16),J0 (x.2.2[j]).2<=12:=by
  unfold J1X;refine .while (λz=>z.2=x/\0<=z.1/\z.1<=16/\ ∀(j:Nat) (hj:j<16),(j:Int)<z.1->J0 (x.2.2[j]).2<=12) ⟨rfl,J0U _,by dsimp only;omega,λj e h1=>by dsimp only at h1;omega⟩ ?_;rintro⟨i,z⟩ ⟨rfl,o,h,g⟩;dsimp only at o g h;unfold JbW;dsimp only;refine .lt (λc=>?_) λc=>.some λ_ j hj=>g j hj oo;refine .bind λ_ _=>.bind λr h4=>.bind λb hb=>.nof (λn=>?_) λ_=>.some nofun;subst n;have:=Jf i 1;have hn:z.2=z.2/\(0<=J2 .i64 i 1/\J2 .i64 i 1<=16/\ ∀(j:Nat) (hj:j<16),(j:Int)<J2 .i64 i 1->J0 (z.2.2[j]).2<=12):=by
   refine⟨rfl,oo,oo,λj hj q=>?_⟩;by_cases hl:(j:Int)<i
   ·exact g j hj hl
   ·have:j=i.toNat:=by omega
    subst this;unfold vat at h4;rw[Vector.getElem?_eq_getElem hj]at h4;injection h4 with h4;rw[h4];exact JsC hb
  exact .eq (λ_=>.bind λ_ _=>.bind λ_ _=>.ite (λ_=>.some nofun) λ_=>.some ⟨rfl,hn.2⟩) λ_=>.some ⟨rfl,hn.2⟩
 exact k _ e rfl
theorem Jhi{x:Jy}(e:J1K x=some true):0<=x.1/\x.1<64/\0<=x.2.1/\x.2.1<=1099511627776:=by
 have g:Par (J1K x) λy=>y=true->0<=x.1/\x.1<64/\0<=x.2.1/\x.2.1<=1099511627776:=by unfold J1K;exact .ge (λ_=>.lt (λ_=>.ge (λ_=>.some λc=>by have:=J65.1 c;omega) λ_=>.some nofun) λ_=>.some nofun) λ_=>.some nofun
 exact g _ e rfl
theorem JBV{x:Jy}(e:J1D x=some true):J1K x=some true/\J1X x=some true:=by
 have g:Par (J1D x) λy=>y=true->J1K x=some true/\J1X x=some true:=by unfold J1D;exact .bind λa ha=>.ite (λc=>.bind λb hb=>.some λd=>⟨c▸ha,d▸hb⟩) λ_=>.some nofun
 exact g _ e rfl
theorem JJN{x:Jy}(h:Ty.fit B S Jk x)(e:J1X x=some true):Ty.fit 0 12 Jk x:=
 ⟨h.1,h.2.1,λi hi=>⟨trivial,JCL e i hi⟩⟩
theorem Jnw{x:Jy}{y:Bool}(h:Ty.fit B S Jk x)(e:J1D x=some y)(c:y=true):(0<=x.1/\x.1<64/\0<=x.2.1/\x.2.1<=1099511627776)/\Ty.fit 0 12 Jk x:=by subst c;obtain⟨h1,h2⟩:=JBV e;exact⟨Jhi h1,JJN h h2⟩
theorem J86{x:Jy}{y:Int}(h:Ty.fit B S Jk x)(e:J2j x=some y)(c:y=0):(0<=x.1/\x.1<64/\0<=x.2.1/\x.2.1<=1099511627776)/\Ty.fit 0 12 Jk x:=by
 subst c;have g:Par (J2j x) λy=>y=0->J1K x=some true/\J1X x=some true:=by unfold J2j;exact .bind λa ha=>.not (λ_=>.some nofun) λc=>.bind λb hb=>.not (λ_=>.some nofun) λd=>.some λ_=>⟨c▸ha,d▸hb⟩
 obtain⟨h1,h2⟩:=g _ e rfl;exact⟨Jhi h1,JJN h h2⟩
def JT1(n i:Int)(p:J00)(r:(TQ115)⊕Bool):Prop:=r=.inl (n,J2 .i64 i 1,p)\/r=.inr false
theorem JIG(n i k:Int)(p:J00)(f:JP):Par (Jc J09 (n,i,k,p,f)) (JT1 n i p):=by refine .while (λz=>z.1=n/\z.2.1=i/\z.2.2.2.1=p) ⟨rfl,rfl,rfl⟩ ?_;rintro⟨n,i,k,p,f⟩ ⟨rfl,rfl,rfl⟩;unfold J09;exact .lt (λ_=>.bind λ_ _=>.eq (λ_=>.map (.some (.inr rfl))) λ_=>.some ⟨rfl,rfl,rfl⟩) λ_=>.some (.inl rfl)
theorem Jeg{x:J00}(e:J0g x=some true):(1<=x.1/\x.1<=64/\J0 x.2.1<=x.1/\0<=x.2.2/\(x.2.2<J0 x.2.1\/x.2.2=0))/\ ∀(j:Nat) (f:JP),x.2.1[j]?=some f->J1D f.1=some true:=by
 have k:Par (J0g x) λy=>y=true->(1<=x.1/\x.1<=64/\J0 x.2.1<=x.1/\0<=x.2.2/\(x.2.2<J0 x.2.1\/x.2.2=0))/\ ∀(j:Nat) (f:JP),x.2.1[j]?=some f->J1D f.1=some true:=by
  unfold J0g;refine .ltf (λw=>.gtf (λB=>.gtf (λv=>.ltf (λD=>.gt (λ_=>.some nofun) λC=>?_) λ_=>.some nofun) λ_=>.some nofun) λ_=>.some nofun) λ_=>.some nofun;have:=Jjv 0 (JI .i64 (J0 x.2.1) 1);have:=J0y (J0 x.2.1) 1;have:=J4 (l:=x.2.1);have hq:1<=x.1/\x.1<=64/\J0 x.2.1<=x.1/\0<=x.2.2/\(x.2.2<J0 x.2.1\/x.2.2=0):=by omega
  refine .while (λz=>z.2.2=x/\0<=z.2.1/\z.1=J0 x.2.1/\ ∀(j:Nat) (f:JP),(j:Int)<z.2.1->x.2.1[j]?=some f->J1D f.1=some true) ⟨rfl,J0U _,rfl,λj e h1=>by dsimp only at h1;omega⟩ ?_;rintro⟨n,i,z⟩ ⟨rfl,q,hn,h⟩;dsimp only at q h hn hq v;unfold J6e;dsimp only;refine .lt (λc=>?_) λc=>.some λ_=>⟨hq,λj f he=>h j f (by have:=JgE he;omega) he⟩;refine .bind λf hf=>.bind λb hb=>.nof (λo=>?_) λ_=>.some nofun;subst o;have:=Jf i 1;have A:z=z/\0<=J2 .i64 i 1/\n=J0 z.2.1/\ ∀(j:Nat) (f:JP),(j:Int)<J2 .i64 i 1->z.2.1[j]?=some f->J1D f.1=some true:=by
   refine⟨rfl,oo,hn,λj g hj he=>?_⟩;by_cases hl:(j:Int)<i
   ·exact h j g hl he
   ·have:j=i.toNat:=by omega
    subst this;rw[(J5G hf).2]at he;injection he with he;subst he
    exact hb
  refine .ite (λ_=>.ltf (λ_=>.gtf (λ_=>.not (λ_=>.ne (λ_=>.some nofun) λ_=>?_) λ_=>?_) λ_=>.some nofun) λ_=>.some nofun) λ_=>.not (λ_=>.ne (λ_=>.some nofun) λ_=>?_) λ_=>?_
  all_goals
   intro r hr;rcases JIG n i 0 z f r hr with rfl|rfl
   ·exact A
   ·nofun
 exact k _ e rfl
theorem J2H{x:J00}{y:Bool}(h:Ty.fit B S JE x)(e:J0g x=some y)(c:y=true):(1<=x.1/\x.1<=64/\J0 x.2.1<=x.1/\0<=x.2.2/\(x.2.2<J0 x.2.1\/x.2.2=0))/\Ty.fit 64 12 JE x:=by subst c;obtain⟨q,k⟩:=Jeg e;refine⟨q,h.1,⟨by show J0 x.2.1<=64;omega,λa ha=>?_⟩,h.c⟩;obtain⟨j,hj⟩:=JiL.1 ha;have h2:=h.2.1.2 a ha;exact⟨(Jnw h2.1 (k j a hj) rfl).2.u,h2.2⟩
theorem J3X{x:JX}{y:Bool}(h:Ty.fit B S JD x)(e:J1s x=some y)(c:y=true)(k:B<=4611686018427387903:=by omega):(J0 x.1+J0 x.2<=1024)/\Ty.fit 1024 0 JD x:=by
 subst c;have g:Par (J1s x) λy=>y=true-> ¬1024<J2 .i64 (J0 x.1) (J0 x.2):=by unfold J1s;exact .gt (λ_=>.some nofun) λc _ _ _=>c
 have o:=g _ e rfl;have:=Jf (J0 x.1) (J0 x.2);have:=J4 (l:=x.1);have:=J4 (l:=x.2);have:J0 x.1<=B:=h.1.1;have:J0 x.2<=B:=h.2.1;have j:J0 x.1+J0 x.2<=1024:=by omega
 refine⟨j,⟨?_,λa ha=>?_⟩,?_,λa ha=>?_⟩
 ·show J0 x.1<=1024;omega
 ·have q:=h.1.2 a ha;exact q
 ·show J0 x.2<=1024;omega
 ·have q:=h.c a ha;exact q
theorem JAr{x:Jq}(e:J2m x=some true):1<=x.1/\x.1<=1073741824/\1<=x.2.1/\x.2.1<=3/\J0 x.2.2.2.2.1<=4096/\J0 x.2.2.2.2.2<=8:=by
 have g:Par (J2m x) λy=>y=true->1<=x.1/\x.1<=1073741824/\1<=x.2.1/\x.2.1<=3/\J0 x.2.2.2.2.1<=4096/\J0 x.2.2.2.2.2<=8:=by unfold J2m;refine .ltf (λq=>.gtf (λh=>.ltf (λj=>.gtf (λo=>.ltf (λ_=>.gtf (λ_=>.gtf (λk=>.gt (λ_=>.some nofun) λn=>?_) λ_=>.some nofun) λ_=>.some nofun) λ_=>.some nofun) λ_=>.some nofun) λ_=>.some nofun) λ_=>.some nofun) λ_=>.some nofun;intro _ _ _;omega
 exact g _ e rfl
theorem JCc{x:List Jq}(e:J12 x=some true):J0 x<=64/\ ∀(j:Nat) (f:Jq),x[j]?=some f->J2m f=some true:=by
 have k:Par (J12 x) λy=>y=true->J0 x<=64/\ ∀(j:Nat) (f:Jq),x[j]?=some f->J2m f=some true:=by
  unfold J12;refine .gt (λ_=>.some nofun) λr=>?_;have hq:J0 x<=64:=by omega
  refine .while (λz=>z.1=x/\0<=z.2/\ ∀(j:Nat) (f:Jq),(j:Int)<z.2->x[j]?=some f->J2m f=some true) ⟨rfl,J0U _,λj e h1=>by dsimp only at h1;omega⟩ ?_;rintro⟨z,i⟩ ⟨rfl,q,h⟩;dsimp only at q h hq;unfold Jby;dsimp only;refine .lt (λc=>?_) λc=>.some λ_=>⟨hq,λj f he=>h j f (by have:=JgE he;omega) he⟩;refine .bind λf hf=>.bind λb hb=>.nof (λn=>?_) λ_=>.some nofun;subst n;have:=Jf i 1;have o:z=z/\0<=J2 .i64 i 1/\ ∀(j:Nat) (f:Jq),(j:Int)<J2 .i64 i 1->z[j]?=some f->J2m f=some true:=by
   refine⟨rfl,oo,λj g hj he=>?_⟩;by_cases hl:(j:Int)<i
   ·exact h j g hl he
   ·have:j=i.toNat:=by omega
    subst this;rw[(J5G hf).2]at he;injection he with he;subst he
    exact hb
  exact .gt (λ_=>.bind λ_ _=>.bind λ_ _=>.ge (λ_=>.some nofun) λ_=>.some o) λ_=>.some o
 exact k _ e rfl
theorem J2F{x:List Jq}{y:Bool}(h:Ty.fit B S (.l Jl) x)(e:J12 x=some y)(c:y=true):(J0 x<=64)/\Ty.fit 4096 0 (.l Jl) x:=by
 subst c;obtain⟨q,k⟩:=JCc e;refine⟨q,?_,λa ha=>?_⟩
 ·show J0 x<=4096;omega
 obtain⟨j,hj⟩:=JiL.1 ha;have w:=JAr (k j a hj);obtain⟨h1,h2,h3,h4,h5,g⟩:=h.2 a ha;refine⟨h1,h2,h3,h4,⟨?_,h5.2⟩,?_,g.2⟩
 ·show J0 _<=4096;omega
 ·show J0 _<=4096;omega
theorem J4N{x:List T_api_Row}{y:Bool}(h:Ty.fit B S (.l J9) x)(e:J1H x=some y)(c:y=true):(1<=J0 x/\J0 x<=64)/\Ty.fit 64 0 (.l J9) x:=by
 subst c;have g:Par (J1H x) λy=>y=true->(1<=J0 x/\J0 x<=64):=by unfold J1H;exact .ltf (λ_=>.gt (λ_=>.some nofun) λ_ _ _ _=>by omega) λ_=>.some nofun
 have q:=g _ e rfl;exact⟨q,q.2,λa ha=>h.2 a ha⟩
theorem JqR{l:List T_api_Row}{p:Int}(e:J1N (l,p)=some true)(hp:1<=p)(n:p<=64):J0 l<=p/\ ∀(j:Nat) (f:T_api_Row),l[j]?=some f->(j:Int)<=f.1/\f.1<p:=by
 have o:Par (J1N (l,p)) λy=>y=true->J0 l<=p/\ ∀(j:Nat) (f:T_api_Row),l[j]?=some f->(j:Int)<=f.1/\f.1<p:=by
  unfold J1N;refine .while (λz=>z.1=l/\z.2.1=p/\0<=z.2.2/\z.2.2<=p/\ ∀(j:Nat) (f:T_api_Row),(j:Int)<z.2.2->l[j]?=some f->(j:Int)<=f.1/\f.1<p) ⟨rfl,rfl,J0U _,by dsimp only;omega,λj e h1=>by dsimp only at h1;omega⟩ ?_;rintro⟨l,p,i⟩ ⟨rfl,rfl,r,k,h⟩;dsimp only at r h k hp n;unfold J7K;dsimp only;refine .lt (λc=>?_) λc=>.some λ_=>⟨oo,λj f he=>h j f (by have:=JgE he;omega) he⟩;refine .bind λf hf=>.ltf (λA=>.gef (λB=>.ltf (λ_=>.gtf (λ_=>.gtf (λ_=>?_) λ_=>.some nofun) λ_=>.some nofun) λ_=>.some nofun) λ_=>.some nofun) λ_=>.some nofun;have:=Jf i 1;have:=J0y i 1;have q:i<=f.1->(l=l/\p=p/\0<=J2 .i64 i 1/\J2 .i64 i 1<=p/\ ∀(j:Nat) (f:T_api_Row),(j:Int)<J2 .i64 i 1->l[j]?=some f->(j:Int)<=f.1/\f.1<p):=by
   intro w;refine⟨rfl,rfl,oo,oo,λj g hj he=>?_⟩;by_cases hl:(j:Int)<i
   ·exact h j g hl he
   ·have:j=i.toNat:=by omega
    subst this;rw[(J5G hf).2]at he;injection he with he;subst he
    omega
  refine .gt (λx=>.bind λv h4=>.ge (λ_=>.some nofun) λC=>.some (q ?_)) λ_=>.some (q oo);obtain⟨_,h5⟩:=J5G h4;have:=h _ v oo h5;omega
 exact o _ e rfl
end
section
variable {B S:Int}
def Has(l:List Jq)(id:Int):Prop:= ∃j,J0R (l,id)=some j/\0<=j
def InP(p:J00)(id:Int):Prop:= ∃j,J1v (p,id)=some j/\0<=j
theorem Juf{l:List Jq}{id y:Int}(h:Has l id)(e:J0R (l,id)=some y):0<=y:=by obtain⟨j,h,g⟩:=h;rw[h]at e;injection e with e;omega
theorem Juy{p:J00}{id y:Int}(h:InP p id)(e:J1v (p,id)=some y):0<=y:=by obtain⟨j,h,g⟩:=h;rw[h]at e;injection e with e;omega
theorem JiE{p:J00}{id:Int}{y:JwM}(e:J32 (p,id)=some y):(y.2=true->InP p id)/\(InP p id->y.2=true):=by
 have g:Par (J32 (p,id)) λy=>(y.2=true->InP p id)/\(InP p id->y.2=true):=by unfold J32;refine .bind λj hj=>.lt (λc=>.some ⟨nofun,λh=>by have:=Juy h hj;omega⟩) λc=>.bind λf hf=>.some ⟨λ_=>⟨j,hj,oo⟩,λ_=>rfl⟩
 exact g _ e
end
section
variable {B S:Int}
theorem Js1(n:Nat)(h:n<2^64):IntKind.wrap .u64 (n:Int)=(n:Int):=by
 have:(n:Int)<18446744073709551616:=by omega
 simp[IntKind.wrap,IntKind.bits,IntKind.signed];omega
theorem JSM{x y:Int}{k:Nat}(hk:k<=64)(hx:0<=x)(g:x<2^k)(hy:0<=y)(h:y<2^k):0<=orI .u64 x y/\orI .u64 x y<2^k:=by
 obtain⟨m,rfl⟩:=Int.eq_ofNat_of_zero_le hx;obtain⟨n,rfl⟩:=Int.eq_ofNat_of_zero_le hy;have e:((2:Int)^k)=((2^k:Nat):Int):=by simp
 rw[e]at g h⊢;have hm:m<2^k:=by omega
 have hn:n<2^k:=by omega
 have r:2^k<=2^64:=JEp (by decide) hk;have q: ∀z:Nat,z<2^k->(BitVec.ofInt 64 (z:Int)).toNat=z:=λz hz=>by rw[BitVec.toNat_ofInt];omega
 show 0<=IntKind.wrap .u64 (((BitVec.ofInt 64 (m:Int)|||BitVec.ofInt 64 (n:Int)).toNat:Nat):Int)/\_;have o:=Nat.or_lt_two_pow hm hn;have e2:orI .u64 (m:Int) (n:Int)=((m|||n:Nat):Int):=by show IntKind.wrap .u64 (((BitVec.ofInt 64 (m:Int)|||BitVec.ofInt 64 (n:Int)).toNat:Nat):Int)=_;rw[BitVec.toNat_or,q m hm,q n hn,Js1 _ oo]
 have j:IntKind.wrap .u64 (((BitVec.ofInt 64 (m:Int)|||BitVec.ofInt 64 (n:Int)).toNat:Nat):Int)=((m|||n:Nat):Int):=e2;rw[e2,j];omega
theorem JJ6{s:List UInt8}{g size:Int}{y:JA}(e:J0e (s,g,size)=some y)(c:y.2=0):0<=g/\g<=J0 s/\size<=J0 s-g/\1<=size/\size<=8/\(size<=4->0<=y.1/\y.1<2^(8*size.toNat)):=by
 have q:Par (J0e (s,g,size)) λy=>y.2=0->(-9223372036854775808<=J0 s-g->J0 s-g<=9223372036854775807->size<=J0 s-g)/\0<=g/\g<=J0 s/\1<=size/\size<=8/\(size<=4->0<=y.1/\y.1<2^(8*size.toNat)):=by
  unfold J0e;dsimp only;refine .ltf (λK=>.gtf (λM=>.lt (λ_=>.some nofun) λN=>.gtf (λL=>.lt (λ_=>.some nofun) λO=>?_) λ_=>.some nofun) λ_=>.some nofun) λ_=>.some nofun;have o:=J0y (J0 s) g;refine .while (λz=>z.1=s/\z.2.1=g/\z.2.2.1=size/\0<=z.2.2.2.2/\z.2.2.2.2<=size/\0<=z.2.2.2.1/\z.2.2.2.1<2^(8*z.2.2.2.2.toNat)) ⟨rfl,rfl,rfl,J0U _,by dsimp only;omega,J0U _,by show(0:Int)<2^(8*0);decide⟩ ?_;rintro⟨s,g,size,n,i⟩ ⟨h1,h2,h3,w,h4,h5,j⟩;dsimp only at h1 h2 h3;subst h1;subst h2;subst h3;dsimp only at w h4 h5 j;unfold J7R;dsimp only;have:=Jf i 1;refine .lt (λc=>?_) λc=>.some λ_=>⟨λ_ _=>by omega,oo,oo,oo,oo,λh=>?_⟩
  ·refine .bind λb hb=>.bind λk hy=>.some ⟨rfl,rfl,rfl,?_,?_,?_⟩
   ·show 0<=J2 .i64 i 1;omega
   ·show J2 .i64 i 1<=size;omega
   have I:0<=b/\b<=255:=by
    unfold Jgk at hb;split at hb
    ·cases hx:s[(J2 .i64 g i).toNat]? with
     |none=>rw[hx]at hb;cases hb
     |some u=>
      rw[hx]at hb;injection hb with hb;subst hb
      have:=u.toNat_lt;omega
    ·cases hb
   have hi:(J2 .i64 i 1).toNat=i.toNat+1:=by omega
   show 0<=orI .u64 n k/\orI .u64 n k<2^(8*(J2 .i64 i 1).toNat);rw[hi];have:=JKH 8 i;have D:cvI .u64 (J20 .i64 8 i)=8*i:=by rw[show J20 .i64 8 i=((8*i.toNat:Nat):Int) by omega];show IntKind.wrap .u64 _=_;rw[Js1 _ oo];omega
   have B:cvI .u64 b=b:=by rw[show b=((b.toNat:Nat):Int) by omega];exact Js1 _ oo
   rw[D,B]at hy;unfold Jru at hy;rw[if_neg oo]at hy;injection hy with hy;have hm:min (8*i).toNat IntKind.u64.bits=8*i.toNat:=by show min (8*i).toNat 64=_;omega
   rw[hm]at hy;have hp:((2:Int)^(8*i.toNat))=((2^(8*i.toNat):Nat):Int):=by simp
   have G:b.toNat*2^(8*i.toNat)<2^(8*(i.toNat+1)):=by rw[show 8*(i.toNat+1)=8+8*i.toNat by omega,Nat.pow_add];exact Nat.mul_lt_mul_of_pos_right oo (Nat.pow_pos (by decide))
   have J:2^(8*(i.toNat+1))<=2^64:=JEp (by decide) oo;have r:k=((b.toNat*2^(8*i.toNat):Nat):Int):=by rw[<-hy,hp,show b*((2^(8*i.toNat):Nat):Int)=((b.toNat*2^(8*i.toNat):Nat):Int) by rw[Int.natCast_mul];congr 1;omega];exact Js1 _ oo
   have hn:n<2^(8*(i.toNat+1)):=Int.lt_of_lt_of_le j (by have:(2:Nat)^(8*i.toNat)<=2^(8*(i.toNat+1)):=JEp (by decide) oo;rw[hp,show((2:Int)^(8*(i.toNat+1)))=((2^(8*(i.toNat+1)):Nat):Int) by simp];omega)
   refine JSM oo h5 hn (by rw[r];omega) ?_;rw[r,show((2:Int)^(8*(i.toNat+1)))=((2^(8*(i.toNat+1)):Nat):Int) by simp];omega
  ·have hi:i.toNat=size.toNat:=by omega
   rw[hi]at j;have H:(2:Nat)^(8*size.toNat)<=2^32:=JEp (by decide) oo;have hp:((2:Int)^(8*size.toNat))=((2^(8*size.toNat):Nat):Int):=by simp
   rw[hp]at j;have:=JKG n;show 0<=cvI .i64 n/\cvI .i64 n<2^(8*size.toNat);rw[hp];omega
 obtain⟨v,E,x,F,A,C⟩:=q _ e c;have:=J4 (l:=s);exact⟨E,x,by
  by_cases h:J0 s-g<=9223372036854775807
  ·exact v oo h
  ·omega,F,A,C⟩
theorem J6H{x:JZ}{y:JA}(h:Ty.fit B S Jv x)(e:J0e x=some y)(c:y.2=0):(1<=x.2.2/\x.2.2<=8/\0<=x.2.1/\x.2.1<=J0 x.1/\x.2.2<=J0 x.1-x.2.1/\(x.2.2<=4->0<=y.1/\y.1<=4294967295)/\(x.2.2=1->y.1<=255)/\(x.2.2=2->y.1<=65535))/\True:=by
 obtain⟨s,j,size⟩:=x;obtain⟨h1,h2,h3,h4,h5,g⟩:=JJ6 e c;dsimp only;refine⟨⟨h4,h5,h1,h2,h3,λh=>?_,λh=>?_,λh=>?_⟩,trivial⟩
 ·obtain⟨a,b⟩:=g h;refine⟨a,?_⟩;have k:(2:Nat)^(8*size.toNat)<=2^32:=JEp (by decide) oo;rw[show((2:Int)^(8*size.toNat))=((2^(8*size.toNat):Nat):Int) by simp]at b;omega
 ·subst h;obtain⟨a,b⟩:=g (by decide);have:y.1<256:=b;omega
 ·subst h;obtain⟨a,b⟩:=g (by decide);have:y.1<65536:=b;omega
end
theorem JdB{B S:Int}{x1:J1y}(h:Ty.fit B S Jj x1)(j:BS B S 0 0:=by omega):Tot (J4t x1) λy=>Ty.fit 0 0 .b y:=by
 unfold J4t;refine .le (λg=>?_) λg=>?_
 ·refine .itf (λe=>?_) λe=>?_
  ·exact .some trivial
  ·exact .some trivial
 ·exact .some trivial
theorem Jyk{B S x1:Int}(h:Ty.fit B S (.i .i64) x1)(g:BS B S 0 0:=by omega):Tot (J9q x1) λy=>Ty.fit 0 0 .b y:=by
 unfold J9q;refine .ge (λe=>?_) λe=>?_
 ·exact .some trivial
 ·exact .some trivial
theorem Jzi{B S:Int}{x1:J1u}(h:Ty.fit B S J0A x1)(n:BS B S 0 0:=by omega):Tot (J74 x1) λy=>Ty.fit 0 0 .b y:=by
 unfold J74;have s0:Ty.fit 0 S J0A x1:=h;refine .bind (Jyk (B:=0) (S:=0) s0.1) λv h1=>.ite (λe=>?_) λe=>?_
 ·have:=J1.1 s0.2.1;refine .ge (λg=>?_) λg=>?_
  ·refine .lt (λk=>?_) λk=>?_
   ·refine .bind (JdB (B:=0) (S:=S) s0.2.2.1) λq o=>.ite (λj=>?_) λj=>?_
    ·refine .bind (JdB (B:=0) (S:=S) s0.2.2.2) λw r=>.some trivial
    ·exact .some trivial
   ·exact .some trivial
  ·exact .some trivial
 ·exact .some trivial
theorem JG3{B S:Int}{x1:J1u}(h:Ty.fit B S J0A x1)(e:BS B S 0 0:=by omega):Tot (J4o x1) λy=>Ty.fit 0 0 .b y:=by unfold J4o;exact .some trivial
theorem JuG{B S:Int}{x1:Js}(h:Ty.fit B S Jh x1)(e:BS B S 0 0:=by omega):Tot (J1Q x1) λy=>Ty.fit 0 0 .b y:=by unfold J1Q;exact .some trivial
theorem JuZ{B S:Int}{x1:Js}(h:Ty.fit B S Jh x1)(g:BS B S 0 0:=by omega):Tot (J7A x1) λy=>Ty.fit 0 0 .b y:=by
 unfold J7A;refine .ge (λe=>?_) λe=>?_
 ·exact .some trivial
 ·exact .some trivial
theorem Jv4{B S:Int}{x1:J1u}(h:Ty.fit B S J0A x1)(j:BS B S 0 0:=by omega):Tot (J7E x1) λy=>Ty.fit 0 0 .b y:=by
 unfold J7E;refine .ite (λe=>?_) λe=>?_
 ·have e2:=J1S.1 e;refine .ge (λg=>?_) λg=>?_
  ·exact .some trivial
  ·exact .some trivial
 ·exact .some trivial
section
variable {B S:Int}
theorem JBR{x1:Js}(h:Ty.fit B S Jh x1)(e:BS B S 0 0:=by omega):Tot (Jao x1) λy=>Ty.fit 0 0 .b y:=by
 have hb: ∀n,Tot (J5n (n,x1)) λ_=>True:=λn=>by unfold J5n;exact .ge (λ_=>.some trivial) λ_=>.some trivial
 have hc:=Jzi h.h.1;unfold Jao;refine .ltf (λa1=>.gtf (λa2=>.ltf (λa3=>.gtf (λa4=>.bind (hb _) λA _=>.nof (λ_=>.bind (hb _) λj _=>.nof (λ_=>.bind (hb _) λw _=>.not (λ_=>.some trivial) λ_=>?_) λ_=>.some trivial) λ_=>.some trivial) λ_=>.some trivial) λ_=>.some trivial) λ_=>.some trivial) λ_=>.some trivial;refine .eq (λ_=>?_) λg=>.eq (λ_=>?_) λk=>.eq (λ_=>?_) λx=>.eq (λ_=>?_) λv=>.eq (λ_=>?_) λz=>.eq (λ_=>?_) λr=>.eq (λ_=>?_) λq=>.eq (λ_=>?_) λo=>by omega
 all_goals repeat' first
  |exact .some trivial
  |refine .ite (λ_=>?_) λ_=>?_
  |refine .itf (λ_=>?_) λ_=>?_
  |refine .bind hc λ_ _=>?_
  |refine .bind (JuG h) λ_ _=>?_
  |refine .bind (JuZ h) λ_ _=>?_
  |refine .bind (Jv4 h.h.1) λ_ _=>?_
  |refine .bind (JG3 h.h.1) λ_ _=>?_
end
theorem JBj{B S:Int}{x1:J04}(h:Ty.fit B S JS x1)(e:BS B S 0 0:=by omega):Tot (JaM x1) λy=>Ty.fit 0 0 (.i .i64) y:=by unfold JaM;exact .some J0Y
theorem JvL{B S:Int}{x1:J04}(h:Ty.fit B S JS x1)(F:BS B S 0 0:=by omega)(J:B<=9223372036854775807:=by omega):Tot (J6i x1) λy=>Ty.fit 0 0 .b y:=by
 unfold J6i;refine .ltf (λw=>?_) λw=>?_
 ·refine .gtf (λx=>?_) λx=>?_
  ·have:J0 x1.2.1<=B:=h.2.1.1;have:=J4 (l:=x1.2.1);have:J0 x1.2.1=_:=Jm h.2.1;refine .gtf (λA=>?_) λA=>?_
   ·have:=J1.1 h.c;refine .ltf (λv=>?_) λv=>?_
    ·refine .bind (JBj h) λK C=>.gt (λg=>?_) λg=>?_
     ·exact .some trivial
     ·refine Ja (τ:=Int) (λq=>(x1.2.1,J0 x1.2.1,q,x1)) (λq=>(Ty.fit 0 0 (.i .i64) q/\0<=q/\(q<=J0 x1.2.1\/q<=0))) (λq=>J0 x1.2.1-q) ?_ 0 rfl ?_
      ·rintro e ⟨n,E,G⟩;unfold J9M
       try dsimp only
       have:=J1.1 n;refine .lt (λk=>?_) λk=>?_
       ·refine .bind (Jg h.2.1) λI j=>.nef (λr=>?_) λr=>?_
        ·refine .bind (JBR (B:=0) (S:=S) j.1.z) λH D=>.not (λo=>?_) λo=>?_
         ·exact .some trivial
         ·have:=Jf e 1;exact .some ⟨J2 .i64 e 1,rfl,⟨J7,om,om⟩,om,om⟩
        ·exact .some trivial
       ·exact .some trivial
      ·try dsimp only
       exact⟨fk0,oo,oo⟩
    ·exact .some trivial
   ·exact .some trivial
  ·exact .some trivial
 ·exact .some trivial
theorem J6v{B S:Int}{x1:T_api_Row}(h:Ty.fit B S J9 x1)(g:BS B S 0 0:=by omega):Tot (J2R x1) λy=>Ty.fit 0 0 .b y/\(y=true->x1.2.1<=x1.1/\x1.1<=x1.2.2):=by
 unfold J2R;refine .ge (λe=>?_) λe=>?_
 ·have:=J1.1 h.c;exact .some ⟨trivial,λc=>omc (J65.1 c)⟩
 ·exact .some ⟨trivial,nofun⟩
theorem Jr8{B S:Int}{x1:Jy}(h:Ty.fit B S Jk x1)(z:BS B S 0 0:=by omega):Tot (J3E x1) λy=>Ty.fit 0 0 .b y:=by
 unfold J3E;have s0:Ty.fit 0 S Jk x1:=h;refine Ja (τ:=Int) (λq=>(x1.2.2,q,x1)) (λq=>(Ty.fit 0 0 (.i .i64) q/\0<=q/\(q<=16\/q<=0))) (λq=>16-q) ?_ 0 rfl ?_
 ·rintro e ⟨w,w2,z3⟩;unfold Jd9
  try dsimp only
  have:=J1.1 w;refine .lt (λx=>?_) λx=>?_
  ·refine .bind (JME s0.2.2) λA C=>.gtf (λv=>?_) λv=>?_
   ·refine .not (λn=>?_) λn=>?_
    ·refine .itf (λk=>?_) λk=>?_
     ·refine .ite (λg=>?_) λg=>?_
      ·have:=J1.1 s0.2.1;refine .eq (λo=>?_) λo=>?_
       ·exact .some trivial
       ·have:=Jf e 1;exact .some ⟨J2 .i64 e 1,rfl,⟨J7,om,om⟩,om,om⟩
      ·have:=Jf e 1;exact .some ⟨J2 .i64 e 1,rfl,⟨J7,om,om⟩,om,om⟩
     ·exact .some trivial
    ·refine .ite (λj=>?_) λj=>?_
     ·have:=J1.1 s0.2.1;refine .eq (λr=>?_) λr=>?_
      ·exact .some trivial
      ·have:=Jf e 1;exact .some ⟨J2 .i64 e 1,rfl,⟨J7,om,om⟩,om,om⟩
     ·have:=Jf e 1;exact .some ⟨J2 .i64 e 1,rfl,⟨J7,om,om⟩,om,om⟩
   ·exact .some trivial
  ·exact .some trivial
 ·try dsimp only
  exact⟨fk0,oo,oo⟩
section
variable {B S:Int}
theorem JEd{x:Jy}(e:J3E x=some true): ∀(j:Nat) (hj:j<16),J0 (x.2.2[j]).2<=12:=by
 have k:Par (J3E x) λy=>y=true-> ∀(j:Nat) (hj:j<16),J0 (x.2.2[j]).2<=12:=by
  unfold J3E;refine .while (λz=>z.1=x.2.2/\0<=z.2.1/\z.2.1<=16/\ ∀(j:Nat) (hj:j<16),(j:Int)<z.2.1->J0 (x.2.2[j]).2<=12) ⟨rfl,J0U _,by dsimp only;omega,λj e h1=>by dsimp only at h1;omega⟩ ?_;rintro⟨v,i,z⟩ ⟨h1,n,h,g⟩;dsimp only at h1 n g h;subst h1;unfold Jd9;dsimp only;refine .lt (λc=>?_) λc=>.some λ_ j hj=>g j hj oo;refine .bind λq h3=>.gtf (λr=>?_) λ_=>.some nofun;have:=Jf i 1;have hn:x.2.2=x.2.2/\(0<=J2 .i64 i 1/\J2 .i64 i 1<=16/\ ∀(j:Nat) (hj:j<16),(j:Int)<J2 .i64 i 1->J0 (x.2.2[j]).2<=12):=by
   refine⟨rfl,oo,oo,λj hj o=>?_⟩;by_cases hl:(j:Int)<i
   ·exact g j hj hl
   ·have e2:i.toNat=j:=by omega
    unfold JrE at h3;split at h3
    ·rw[e2,Vector.getElem?_eq_getElem hj]at h3;injection h3 with h3;rw[h3];omega
    ·cases h3
  exact .not (λ_=>.itf (λ_=>.ite (λ_=>.eq (λ_=>.some nofun) λ_=>.some hn) λ_=>.some hn) λ_=>.some nofun) λ_=>.ite (λ_=>.eq (λ_=>.some nofun) λ_=>.some hn) λ_=>.some hn
 exact k _ e rfl
theorem JF2{x:Jy}{y:Bool}(h:Ty.fit B S Jk x)(e:J3E x=some y)(c:y=true):True/\Ty.fit 0 12 Jk x:=by subst c;exact⟨trivial,h.1,h.2.1,λi hi=>⟨trivial,JEd e i hi⟩⟩
end
theorem Jpm{B S x1:Int}(h:Ty.fit B S (.i .i64) x1)(g:BS B S 0 0:=by omega):Tot (J8G x1) λy=>Ty.fit 0 0 .b y:=by
 unfold J8G;refine .ge (λe=>?_) λe=>?_
 ·exact .some trivial
 ·exact .some trivial
theorem JmW{B S:Int}{x1:Jy}(h:Ty.fit B S Jk x1)(j:BS B S 0 0:=by omega):Tot (J7W x1) λy=>Ty.fit 0 0 .b y:=by
 unfold J7W;have s0:Ty.fit 0 S Jk x1:=h;refine .bind (Jpm (B:=0) (S:=0) s0.1) λk h1=>.ite (λe=>?_) λe=>?_
 ·have:=J1.1 s0.2.1;refine .ge (λg=>?_) λg=>?_
  ·exact .some trivial
  ·exact .some trivial
 ·exact .some trivial
theorem JEG{B S:Int}{x1:Jy}(h:Ty.fit B S Jk x1)(g:BS B S 0 0:=by omega):Tot (Jcn x1) λy=>Ty.fit 0 0 .b y:=by
 unfold Jcn;have s0:Ty.fit 0 S Jk x1:=h;refine .bind (JmW (B:=0) (S:=S) s0) λk h1=>.ite (λe=>?_) λe=>?_
 ·refine .bind ((Jr8 (B:=0) (S:=S) (x1:=x1) s0).eqn) λj h3=>.some trivial
 ·exact .some trivial
theorem Jzl{B S:Int}{x1:JP×Int}(h:Ty.fit B S (.pr JF (.i .i64)) x1)(e:BS B S 0 0:=by omega):Tot (J9o x1) λy=>Ty.fit 0 0 JGy y:=by unfold J9o;exact .some (⟨trivial,h.z.2⟩)
theorem J7n{B S:Int}{x1:(List JP)×Int}(h:Ty.fit B S (.pr (.l JF) (.i .i64)) x1)(A:BS B S 0 0:=by omega)(F:B<=9223372036854775807:=by omega):Tot (J0W x1) λy=>Ty.fit 0 0 JY y/\(y.1<J0 x1.1):=by
 unfold J0W;have:J0 x1.1<=B:=h.1.1;have:=J4 (l:=x1.1);have:J0 x1.1=_:=Jm h.1;refine Ja (τ:=Jat) (λq=>(x1.1,J0 x1.1,q.1,q.2)) (λq=>(Ty.fit 0 0 (.i .i64) q.1/\0<=q.1/\(q.1<=J0 x1.1\/q.1<=0))/\Ty.fit 0 0 (.i .i64) q.2) (λq=>J0 x1.1-q.1) ?_ (0,x1.2) rfl ?_
 ·rintro⟨e,x⟩ j;dsimp only at j;obtain⟨⟨o,C,E⟩,n⟩:=j;unfold J3d
  try dsimp only
  have:=J1.1 o;refine .lt (λv=>?_) λv=>?_
  ·refine .bind (Jg h.1) λD k=>.bind (Jzl (B:=0) (S:=S) (⟨k.1.z,n⟩)) λw g=>.ite (λr=>?_) λr=>?_
   ·exact .some ⟨(⟨o,g.2⟩),om⟩
   ·have:=Jf e 1;exact .some ⟨(J2 .i64 e 1,w.2),rfl,⟨⟨J7,om,om⟩,g.2⟩,om,om⟩
  ·exact .some ⟨(⟨fkn (-1),n⟩),om⟩
 ·try dsimp only
  exact⟨⟨fk0,oo,oo⟩,h.2⟩
theorem JsW{B S:Int}{x1:J4A}(h:Ty.fit B S tq6 x1)(g:BS B S 0 0:=by omega)(j:B<=9223372036854775807:=by omega):Tot (J8b x1) λy=>Ty.fit 0 0 (.i .i64) y/\(y<J0 x1.1.2.1):=by unfold J8b;refine .bind (J7n (B:=B) (S:=S) (⟨h.1.2.1,h.2⟩)) λe h1=>?_;have:e.1<J0 x1.1.2.1:=h1.2;exact .some ⟨h1.1.1,om⟩
theorem JpM{B S:Int}{x1:J00}(h:Ty.fit B S JE x1)(M:BS B S 0 0:=by omega)(R:B<=9223372036854775807:=by omega):Tot (J76 x1) λy=>Ty.fit 0 0 .b y:=by
 unfold J76;have:=J1.1 h.1;refine .ltf (λG=>?_) λG=>?_
 ·refine .gtf (λH=>?_) λH=>?_
  ·have:J0 x1.2.1<=B:=h.2.1.1;have:=J4 (l:=x1.2.1);have:J0 x1.2.1=_:=Jm h.2.1;refine .gtf (λI=>?_) λI=>?_
   ·have:=J1.1 h.c;refine .ltf (λF=>?_) λF=>?_
    ·have:=Jjv 1 (J0 x1.2.1);refine .ge (λv=>?_) λv=>?_
     ·exact .some trivial
     ·refine Ja (τ:=Int) (λq=>(x1.2.1,J0 x1.2.1,q,x1)) (λq=>(Ty.fit 0 0 (.i .i64) q/\0<=q/\(q<=J0 x1.2.1\/q<=0))) (λq=>J0 x1.2.1-q) ?_ 0 rfl ?_
      ·rintro e ⟨E,L,K⟩;unfold Jd8
       try dsimp only
       have:=J1.1 E;refine .lt (λr=>?_) λr=>?_
       ·refine .bind (Jg h.2.1) λO g=>.bind (JEG (B:=0) (S:=S) g.1.z.1) λQ N=>.nof (λw=>?_) λw=>?_
        ·refine .bind (JsW (B:=B) (S:=S) (⟨h,g.1.z.1.1⟩)) λP J=>.ne (λA=>?_) λA=>?_
         ·exact .some trivial
         ·refine .ite (λD=>?_) λD=>?_
          ·have:=J1.1 g.1.z.2.2.1;refine .ltf (λk=>?_) λk=>?_
           ·have:=J1.1 g.1.z.1.2.1;refine .gtf (λC=>?_) λC=>?_
            ·refine .not (λj=>?_) λj=>?_
             ·refine .ne (λo=>?_) λo=>?_
              ·exact .some trivial
              ·have:=Jf e 1;exact .some ⟨J2 .i64 e 1,rfl,⟨J7,om,om⟩,om,om⟩
             ·have:=Jf e 1;exact .some ⟨J2 .i64 e 1,rfl,⟨J7,om,om⟩,om,om⟩
            ·exact .some trivial
           ·exact .some trivial
          ·refine .not (λx=>?_) λx=>?_
           ·have:=J1.1 g.1.z.2.2.1;refine .ne (λn=>?_) λn=>?_
            ·exact .some trivial
            ·have:=Jf e 1;exact .some ⟨J2 .i64 e 1,rfl,⟨J7,om,om⟩,om,om⟩
           ·have:=Jf e 1;exact .some ⟨J2 .i64 e 1,rfl,⟨J7,om,om⟩,om,om⟩
        ·exact .some trivial
       ·exact .some trivial
      ·try dsimp only
       exact⟨fk0,oo,oo⟩
    ·exact .some trivial
   ·exact .some trivial
  ·exact .some trivial
 ·exact .some trivial
theorem JiI{B S:Int}{x1:J4A}(h:Ty.fit B S tq6 x1)(k:BS B S 0 0:=by omega)(n:B<=9223372036854775807:=by omega):Tot (J5e x1) λy=>Ty.fit 0 0 (.i .i64) y/\(y<J0 x1.1.2.1):=by
 unfold J5e;refine .bind (JpM h.1) λo h1=>.not (λg=>?_) λg=>?_
 ·have:J0 x1.1.2.1<=B:=h.1.2.1.1;have:=J4 (l:=x1.1.2.1);have:J0 x1.1.2.1=_:=Jm h.1.2.1;exact .some ⟨(fkn (-1)),om⟩
 ·refine .bind (JsW (B:=B) (S:=S) (h)) λj e=>?_;have:j<J0 x1.1.2.1:=e.2;exact .some ⟨e.1,om⟩
theorem Jup{B S:Int}{x1:J6}(h:Ty.fit B S J3 x1)(J:BS B S 0 0:=by omega)(Q:B<=9223372036854775807:=by omega):Tot (J5x x1) λy=>Ty.fit 0 0 .b y:=by
 unfold J5x;have:J0 x1.2.2.2.2.2.2.2<=B:=h.i.1;have:=J4 (l:=x1.2.2.2.2.2.2.2);have:J0 x1.2.2.2.2.2.2.2=_:=Jm h.i;refine Ja (τ:=Int) (λq=>(x1.2.2.2.2.2.2.2,J0 x1.2.2.2.2.2.2.2,q,x1)) (λq=>(Ty.fit 0 0 (.i .i64) q/\0<=q/\(q<=J0 x1.2.2.2.2.2.2.2\/q<=0))) (λq=>J0 x1.2.2.2.2.2.2.2-q) ?_ 0 rfl ?_
 ·rintro g ⟨E,R,O⟩;unfold J96
  try dsimp only
  have:=J1.1 E;refine .lt (λD=>?_) λD=>?_
  ·refine .bind (Jg h.i) λL e=>.bind (J6v (B:=0) (S:=0) (⟨e.1.1,fk0,J0Y⟩)) λP F=>.nof (λn=>?_) λn=>?_
   ·have:=J1.1 e.1.1;refine .gt (λr=>?_) λr=>?_
    ·have:=J0y g 1;refine .bind (Jg h.i) λM G=>.gef (λC=>?_) λC=>?_
     ·have:=J1.1 e.1.2.1;refine .ltf (λx=>?_) λx=>?_
      ·have:=J1.1 e.1.c;refine .gtf (λj=>?_) λj=>?_
       ·refine .gtf (λo=>?_) λo=>?_
        ·refine .bind (JiI (B:=B) (S:=S) (⟨h.d.1,e.1.1⟩)) λN H=>.ge (λk=>?_) λk=>?_
         ·exact .some trivial
         ·have:=Jf g 1;exact .some ⟨J2 .i64 g 1,rfl,⟨J7,om,om⟩,om,om⟩
        ·exact .some trivial
       ·exact .some trivial
      ·exact .some trivial
     ·exact .some trivial
    ·have:=J1.1 e.1.2.1;refine .ltf (λv=>?_) λv=>?_
     ·have:=J1.1 e.1.c;refine .gtf (λA=>?_) λA=>?_
      ·refine .gtf (λw=>?_) λw=>?_
       ·refine .bind (JiI (B:=B) (S:=S) (⟨h.d.1,e.1.1⟩)) λK I=>.ge (λz=>?_) λz=>?_
        ·exact .some trivial
        ·have:=Jf g 1;exact .some ⟨J2 .i64 g 1,rfl,⟨J7,om,om⟩,om,om⟩
       ·exact .some trivial
      ·exact .some trivial
     ·exact .some trivial
   ·exact .some trivial
  ·exact .some trivial
 ·try dsimp only
  exact⟨fk0,oo,oo⟩
theorem Ju7{B S:Int}{x1:Jef}(h:Ty.fit B S JxZ x1)(k:BS B S 0 0:=by omega):Tot (J7F x1) λy=>Ty.fit 0 0 .b y:=by
 unfold J7F;refine .ne (λj=>?_) λj=>?_
 ·refine .ite (λe=>?_) λe=>?_
  ·have n:=J1S.1 e;refine .eqf (λg=>?_) λg=>?_
   ·exact .some trivial
   ·exact .some trivial
  ·exact .some trivial
 ·exact .some trivial
theorem Jh0{B S x1:Int}(h:Ty.fit B S (.i .i64) x1)(e:BS B S 0 0:=by omega):Tot (J6o x1) λy=>Ty.fit 0 0 .b y:=by unfold J6o;exact .some trivial
theorem J9W{B S:Int}{x1:JA}(h:Ty.fit B S JY x1)(o:BS B S 0 0:=by omega):Tot (J3O x1) λy=>Ty.fit 0 0 (.i .i64) y:=by
 unfold J3O;refine .bind (Jh0 h.1) λr h1=>.bind (Jh0 h.2) λq h2=>.ite (λg=>?_) λg=>?_
 ·refine .ite (λn=>?_) λn=>?_
  ·exact .some fk0
  ·exact .some (fkn (-1))
 ·refine .ite (λj=>?_) λj=>?_
  ·exact .some (fkn 1)
  ·have:=J1.1 h.1;refine .lt (λk=>?_) λk=>?_
   ·exact .some (fkn (-1))
   ·refine .gt (λe=>?_) λe=>?_
    ·exact .some (fkn 1)
    ·exact .some fk0
end Go.Am
end
section
namespace Go.Am
set_option linter.unusedVariables false
set_option maxRecDepth 20000
set_option maxHeartbeats 4000000
theorem JG5{B S:Int}{x1:List Int}(h:Ty.fit B S (.l (.i .i64)) x1)(o:BS B S 0 0:=by omega)(w:B<=9223372036854775807:=by omega):Tot (Jbu x1) λy=>Ty.fit 0 0 (.i .i64) y:=by
 unfold Jbu;have:J0 x1<=B:=h.1;have:=J4 (l:=x1);refine Ja (τ:=Int) (λq=>(0,x1,J0 x1,q)) (λq=>(Ty.fit 0 0 (.i .i64) q/\0<=q/\(q<=J0 x1\/q<=0))) (λq=>J0 x1-q) ?_ 0 rfl ?_
 ·rintro e ⟨k,r,z5⟩;unfold JjV
  try dsimp only
  have:=J1.1 k;refine .lt (λn=>?_) λn=>?_
  ·refine .bind (Jg h) λv g=>.ne (λj=>?_) λj=>?_
   ·exact .some g.1
   ·have:=Jf e 1;exact .some ⟨J2 .i64 e 1,rfl,⟨J7,om,om⟩,om,om⟩
  ·exact .some fk0
 ·try dsimp only
  exact⟨fk0,oo,oo⟩
theorem Je4{B S:Int}{x1:Jef}(h:Ty.fit B S JxZ x1)(e:BS B S 0 0:=by omega):Tot (J68 x1) λy=>Ty.fit 0 0 (.i .i64) y:=by unfold J68;refine .bind (J9W (B:=0) (S:=0) (⟨h.1.2.1.1,h.c.1.1⟩)) λj h1=>.bind (J9W (B:=0) (S:=0) (⟨h.1.2.1.2,h.c.1.2⟩)) λg h2=>.bind (J9W (B:=0) (S:=0) (⟨h.1.1,h.2.1⟩)) λk h3=>.bind (JG5 (B:=3) (S:=0) (J0H (B:=3) (S:=0) (t:=(.i .i64)) (by have q:((3:Nat):Int)<=3:=oo;exact q) h1 (J0H (B:=3) (S:=0) (t:=(.i .i64)) (by have q:((2:Nat):Int)<=3:=oo;exact q) h2 (J0H (B:=3) (S:=0) (t:=(.i .i64)) (by have q:((1:Nat):Int)<=3:=oo;exact q) h3 Jb)))) λn h4=>.some h4
section
variable {B S:Int}
theorem JTf{i j:Int}(h1:0<=i)(h2:0<=j)(h3:i+j<=9223372036854775807):Tot (JbG .u64 (cvI .u64 (J2 .i64 i j)) 1) λr=>cvI .i64 r=(i+j)/2:=by
 refine(JQ2 (by decide)).mono λr e=>?_;subst e;have:=Jf i j;have e2:cvI .u64 (J2 .i64 i j)=J2 .i64 i j%18446744073709551616:=rfl;have g:cvI .u64 (J2 .i64 i j)=i+j:=by omega
 rw[g];have h:(i+j).fdiv (2^(min (1:Int).toNat IntKind.u64.bits))=(i+j)/2:=Int.fdiv_eq_ediv_of_nonneg _ (by decide);rw[h];have:=JKG ((i+j)/2);omega
theorem J40{x1:JiN}(h:Ty.fit B S JDY x1)(x:BC B S 0 0:=by omega):Tot (J0z x1) λy=>Ty.fit 0 0 (.pr (.i .i64) .b) y/\(y.2=true->0<=y.1/\y.1<J0 x1.1):=by
 obtain⟨l,g⟩:=x1;obtain⟨hl,e⟩:=h;replace hl:Ty.fit B S (.l J5) l:=hl;replace e:Ty.fit B S J5 g:=e;have hn:=J4 (l:=l);have z:J0 l<=B:=hl.1;unfold J0z;refine Ja (τ:=Jat) (λq=>(l,J0 l,q.1,q.2,g)) (λq=>0<=q.1/\q.1<=q.2/\q.2<=J0 l) (λq=>q.2-q.1) ?_ (0,J0 l) rfl ⟨J0U _,hn,J0U _⟩;rintro⟨i,j⟩ ⟨h1,h2,h3⟩;dsimp only at h1 h2 h3;unfold J1L;dsimp only;have hf: ∀k:Int,0<=k->k<=J0 l->Ty.fit 0 0 (.i .i64) k:=λk a b=>J1.2 oo;refine .lt (λc=>.bind (JTf h1 oo oo) λC v=>?_) λc=>.inr (.lt (λE=>?_) λ_=>.some ⟨⟨hf i h1 oo,trivial⟩,nofun⟩)
 ·rw[v];refine .bind (Jg hl oo (show(i+j)/2<J0 l by omega)) λr w=>.bind (Je4 (B:=B) (S:=S) (x1:=(r,g)) ⟨w.1,e⟩) λD _=>?_;have:=Jf ((i+j)/2) 1;exact .lt (λ_=>.some ⟨(J2 .i64 ((i+j)/2) 1,j),rfl,⟨by first|omega|(dsimp only;omega),by first|omega|(dsimp only;omega),h3⟩,by first|omega|(dsimp only;omega),by first|omega|(dsimp only;omega)⟩) λ_=>.some ⟨(i,(i+j)/2),rfl,⟨h1,by first|omega|(dsimp only;omega),by first|omega|(dsimp only;omega)⟩,by first|omega|(dsimp only;omega),by first|omega|(dsimp only;omega)⟩
 ·exact .bind (Jg hl h1 (show i<J0 l by omega)) λo n=>.bind (Je4 (B:=B) (S:=S) (x1:=(o,g)) ⟨n.1,e⟩) λA _=>.some ⟨⟨hf i h1 oo,trivial⟩,λ_=>⟨h1,(show i<J0 l by omega)⟩⟩
end
theorem JFE{B S:Int}{x1:(List T_api_Grant)×T_api_Row}(h:Ty.fit B S (.pr (.l J5) J9) x1)(g:BC B S 0 0:=by omega):Tot (Jcj x1) λy=>Ty.fit 0 0 (.pr (.i .i64) .b) y/\(y.2=true->0<=y.1/\y.1<J0 x1.1):=by unfold Jcj;refine .bind (J40 (B:=B) (S:=S) (⟨h.1,h.2.1,h.c,fk0⟩)) λe h1=>.some ⟨(⟨h1.1.1,trivial⟩),λc=>by have:0<=e.1/\e.1<J0 x1.1:=h1.2 c;first|omega|(dsimp only;omega)|(simp only[J98,JfP]<;>omega)⟩
theorem JGZ{B S:Int}{x1:Js0}(h:Ty.fit B S JPi x1)(k:BC B S 0 0:=by omega):Tot (JbL x1) λy=>Ty.fit 0 0 (.i .i64) y:=by
 unfold JbL;refine .bind (JFE (B:=B) (S:=S) (⟨h.1.1,h.2⟩)) λg h1=>.ite (λe=>?_) λe=>?_
 ·have:=J1.1 h1.1.1;have:J0 x1.1.1=_:=Jm h.1.1;have:0<=g.1/\g.1<J0 x1.1.1:=h1.2 e;refine .bind (Jg h.1.1) λn j=>.some j.1.c
 ·exact .some fk0
theorem JmE{B S:Int}{x1:T_api_Grant}(h:Ty.fit B S J5 x1)(r:BS B S 0 0:=by omega):Tot (J7P x1) λy=>Ty.fit 0 0 .b y:=by
 unfold J7P;refine .ge (λq=>?_) λq=>?_
 ·refine .le (λj=>?_) λj=>?_
  ·have:=J1.1 h.2.1.1;refine .ge (λo=>?_) λo=>?_
   ·refine .lt (λn=>?_) λn=>?_
    ·have:=J1.1 h.2.1.2;refine .ge (λk=>?_) λk=>?_
     ·refine .lt (λg=>?_) λg=>?_
      ·have:=J1.1 h.c;refine .eqf (λe=>?_) λe=>?_
       ·exact .some trivial
       ·exact .some trivial
      ·exact .some trivial
     ·exact .some trivial
    ·exact .some trivial
   ·exact .some trivial
  ·exact .some trivial
 ·exact .some trivial
theorem Jul{B S:Int}{x1:Jef}(h:Ty.fit B S JxZ x1)(e:BS B S 0 0:=by omega):Tot (J7v x1) λy=>Ty.fit 0 0 (.pr .b J5) y:=by unfold J7v;exact .some (⟨trivial,h.2⟩)
theorem J7l{B S:Int}{x1:JiN}(h:Ty.fit B S JDY x1)(z:BS B S 0 0:=by omega)(E:B<=9223372036854775807:=by omega):Tot (J1j x1) λy=>Ty.fit 0 0 (.pr (.i .i64) J5) y:=by
 unfold J1j;have:J0 x1.1<=B:=h.1.1;have:=J4 (l:=x1.1);have:J0 x1.1=_:=Jm h.1;refine Ja (τ:=Int×T_api_Grant) (λq=>(x1.1,J0 x1.1,q.1,q.2)) (λq=>(Ty.fit 0 0 (.i .i64) q.1/\0<=q.1/\(q.1<=J0 x1.1\/q.1<=0))/\Ty.fit 0 0 J5 q.2) (λq=>J0 x1.1-q.1) ?_ (0,x1.2) rfl ?_
 ·rintro⟨e,x⟩ j;dsimp only at j;obtain⟨⟨o,A,D⟩,n⟩:=j;unfold J3c
  try dsimp only
  have:=J1.1 o;refine .lt (λv=>?_) λv=>?_
  ·refine .bind (Jg h.1) λC k=>.bind (Jul (B:=0) (S:=0) (⟨k.1,n⟩)) λw g=>.ite (λr=>?_) λr=>?_
   ·exact .some (⟨o,g.2⟩)
   ·have:=Jf e 1;exact .some ⟨(J2 .i64 e 1,w.2),rfl,⟨⟨J7,om,om⟩,g.2⟩,om,om⟩
  ·exact .some (⟨fkn (-1),n⟩)
 ·try dsimp only
  exact⟨⟨fk0,oo,oo⟩,h.2⟩
theorem J6N{B S:Int}{x1:JiN}(h:Ty.fit B S JDY x1)(e:BS B S 0 0:=by omega)(g:B<=9223372036854775807:=by omega):Tot (J1f x1) λy=>Ty.fit 0 0 (.pr .b J5) y:=by unfold J1f;refine .bind (J7l (B:=B) (S:=S) (h)) λj h1=>.some (⟨trivial,h1.2⟩)
theorem JC7{B S:Int}{x1:JX}(h:Ty.fit B S JD x1)(U:BC B S 0 0:=by omega):Tot (J80 x1) λy=>Ty.fit 0 0 .b y:=by
 unfold J80;have:J0 x1.1<=B:=h.1.1;have:=J4 (l:=x1.1);have:J0 x1.1=_:=Jm h.1;have:J0 x1.2<=B:=h.2.1;have:=J4 (l:=x1.2);have:J0 x1.2=_:=Jm h.2;have:=Jf (J0 x1.1) (J0 x1.2);refine .gt (λH=>?_) λH=>?_
 ·exact .some trivial
 ·refine Ja (τ:=Int) (λq=>(x1.1,J0 x1.1,q,x1)) (λq=>(Ty.fit 0 0 (.i .i64) q/\0<=q/\(q<=J0 x1.1\/q<=0))) (λq=>J0 x1.1-q) ?_ 0 rfl ?_
  ·rintro e ⟨I,a0,Y⟩;unfold Jck
   try dsimp only
   have:=J1.1 I;refine .lt (λn=>?_) λn=>?_
   ·refine .bind (Jg h.1) λy3 j=>.bind (JmE j.1) λy4 O=>.nof (λF=>?_) λF=>?_
    ·refine .gt (λo=>?_) λo=>?_
     ·have:=J0y e 1;refine .bind (Jg h.1) λy5 E=>.bind (Je4 (B:=0) (S:=0) (⟨E.1,j.1⟩)) λy6 P=>.gef (λC=>?_) λC=>?_
      ·refine .bind (Jg h.1) λy7 G=>.bind (Ju7 (B:=0) (S:=0) (⟨G.1,j.1⟩)) λy8 R=>.ite (λr=>?_) λr=>?_
       ·exact .some trivial
       ·have:=Jf e 1;exact .some ⟨J2 .i64 e 1,rfl,⟨J7,om,om⟩,om,om⟩
      ·exact .some trivial
     ·have:=Jf e 1;exact .some ⟨J2 .i64 e 1,rfl,⟨J7,om,om⟩,om,om⟩
    ·exact .some trivial
   ·refine .inr ?_;refine Ja (τ:=Int) (λq=>(x1.2,J0 x1.2,q,x1)) (λq=>(Ty.fit 0 0 (.i .i64) q/\0<=q/\(q<=J0 x1.2\/q<=0))) (λq=>J0 x1.2-q) ?_ 0 rfl ?_
    ·rintro k ⟨x,M,N⟩;unfold J8n
     try dsimp only
     have:=J1.1 x;refine .lt (λv=>?_) λv=>?_
     ·refine .bind (Jg h.2) λK g=>.bind (JmE g.1) λZ W=>.nof (λw=>?_) λw=>?_
      ·refine .bind (JGZ (B:=B) (S:=S) (⟨h,g.1.1,g.1.2.1⟩)) λV J=>.gef (λA=>?_) λA=>?_
       ·refine .bind (J97 h.2) λL z=>.bind (J6N (B:=B) (S:=S) (⟨z.1,g.1⟩)) λT Q=>.ite (λD=>?_) λD=>?_
        ·exact .some trivial
        ·have:=Jf k 1;exact .some ⟨J2 .i64 k 1,rfl,⟨J7,om,om⟩,om,om⟩
       ·exact .some trivial
      ·exact .some trivial
     ·exact .some trivial
    ·try dsimp only
     exact⟨fk0,oo,oo⟩
  ·try dsimp only
   exact⟨fk0,oo,oo⟩
theorem J7J{B S x1:Int}(h:Ty.fit B S (.i .i64) x1)(g:BS B S 0 0:=by omega):Tot (J2J x1) λy=>Ty.fit 0 0 .b y:=by
 unfold J2J;refine .ge (λe=>?_) λe=>?_
 ·exact .some trivial
 ·exact .some trivial
theorem Jlz{B S:Int}{x1:T_api_Row}(h:Ty.fit B S J9 x1)(n:BS B S 0 0:=by omega):Tot (J58 x1) λy=>Ty.fit 0 0 .b y:=by
 unfold J58;refine .bind (J7J h.1) λq h1=>.nof (λe=>?_) λe=>?_
 ·refine .bind (J7J h.2.1) λo h3=>.nof (λk=>?_) λk=>?_
  ·refine .bind (J7J h.c) λr h5=>.nof (λj=>?_) λj=>?_
   ·have:=J1.1 h.2.1;refine .eq (λg=>?_) λg=>?_
    ·exact .some trivial
    ·exact .some trivial
   ·exact .some trivial
  ·exact .some trivial
 ·exact .some trivial
theorem J8C{B S:Int}{x1:List T_api_Row}(h:Ty.fit B S (.l J9) x1)(r:BS B S 0 0:=by omega)(z:B<=9223372036854775807:=by omega):Tot (J1a x1) λy=>Ty.fit 0 0 (.i .i64) y:=by
 unfold J1a;have:J0 x1<=B:=h.1;have:=J4 (l:=x1);have:J0 x1=_:=Jm h;refine Ja (τ:=Int) (λq=>(x1,J0 x1,q)) (λq=>(Ty.fit 0 0 (.i .i64) q/\0<=q/\(q<=J0 x1\/q<=0))) (λq=>J0 x1-q) ?_ 0 rfl ?_
 ·rintro e ⟨j,A,x⟩;unfold J13
  try dsimp only
  have:=J1.1 j;refine .lt (λn=>?_) λn=>?_
  ·refine .bind (Jg h) λw g=>.bind (Jlz g.1) λv o=>.ite (λk=>?_) λk=>?_
   ·exact .some j
   ·have:=Jf e 1;exact .some ⟨J2 .i64 e 1,rfl,⟨J7,om,om⟩,om,om⟩
  ·exact .some (fkn (-1))
 ·try dsimp only
  exact⟨fk0,oo,oo⟩
theorem J7I{B S:Int}{x1:List T_api_Row}(h:Ty.fit B S (.l J9) x1)(e:BS B S 0 0:=by omega)(g:B<=9223372036854775807:=by omega):Tot (J0m x1) λy=>Ty.fit 0 0 .b y:=by unfold J0m;refine .bind (J8C h) λj h1=>.some trivial
theorem JeB{B S:Int}{x1:List T_api_Row}(h:Ty.fit B S (.l J9) x1)(j:BS B S 0 0:=by omega)(n:B<=9223372036854775807:=by omega):Tot (J3P x1) λy=>Ty.fit 0 0 .b y:=by
 unfold J3P;refine .ge (λg=>?_) λg=>?_
 ·refine .le (λe=>?_) λe=>?_
  ·refine .bind (J7I h) λo k=>.some trivial
  ·exact .some trivial
 ·exact .some trivial
theorem J3H{B S:Int}{x1:(List Int)×T_api_Row}(h:Ty.fit B S (.pr (.l (.i .i64)) J9) x1)(x:BS B S 0 0:=by omega)(D:B<=9223372036854775807:=by omega):Tot (J1x x1) λy=>Ty.fit 0 0 .b y:=by
 unfold J1x;have:J0 x1.1<=B:=h.1.1;have:=J4 (l:=x1.1);refine Ja (τ:=Int) (λq=>(x1.1,x1.2.1,x1.2.2.1,x1.2.2.2,x1.1,J0 x1.1,q)) (λq=>(Ty.fit 0 0 (.i .i64) q/\0<=q/\(q<=J0 x1.1\/q<=0))) (λq=>J0 x1.1-q) ?_ 0 rfl ?_
 ·rintro e ⟨o,z,z5⟩;unfold J7X
  try dsimp only
  have:=J1.1 o;refine .lt (λr=>?_) λr=>?_
  ·refine .bind (Jg h.1) λA w=>.ltf (λj=>?_) λj=>?_
   ·have:=J1.1 h.c.1;refine .gtf (λg=>?_) λg=>?_
    ·refine .gt (λn=>?_) λn=>?_
     ·have:=J0y e 1;refine .bind (Jg h.1) λC v=>.gt (λk=>?_) λk=>?_
      ·exact .some trivial
      ·have:=Jf e 1;exact .some ⟨J2 .i64 e 1,rfl,⟨J7,om,om⟩,om,om⟩
     ·have:=Jf e 1;exact .some ⟨J2 .i64 e 1,rfl,⟨J7,om,om⟩,om,om⟩
    ·exact .some trivial
   ·exact .some trivial
  ·exact .some trivial
 ·try dsimp only
  exact⟨fk0,oo,oo⟩
theorem Jm9{B S:Int}{x1:Jq}(h:Ty.fit B S Jl x1)(a3:BS B S 0 0:=by omega)(hB:B<=9223372036854775807:=by omega):Tot (J56 x1) λy=>Ty.fit 0 0 .b y:=by
 unfold J56;refine .eqf (λW=>?_) λW=>?_
 ·have:=J1.1 h.2.1;refine .eq (λY=>?_) λY=>?_
  ·refine .gt (λZ=>?_) λZ=>?_
   ·have:=J1.1 h.1;refine .ge (λc6=>?_) λc6=>?_
    ·refine .le (λU=>?_) λU=>?_
     ·refine .ge (λV=>?_) λV=>?_
      ·refine .le (λG=>?_) λG=>?_
       ·have:=J1.1 h.c.1;refine .ge (λD=>?_) λD=>?_
        ·refine .le (λK=>?_) λK=>?_
         ·refine .le (λz=>?_) λz=>?_
          ·have:J0 x1.2.2.2.2.1<=B:=h.e.1.1;refine .le (λE=>?_) λE=>?_
           ·refine .bind (J3H (B:=B) (S:=S) (⟨h.e.1,fkn 1,h.c.1,fkn 1⟩)) λy2 a4=>.ite (λI=>?_) λI=>?_
            ·have:J0 x1.2.2.2.2.2<=B:=h.g.1;refine .le (λT=>?_) λT=>?_
             ·refine .bind (J3H (B:=B) (S:=S) (⟨h.g,fk0,h.c.1,fk0⟩)) λy3 a2=>.some trivial
             ·exact .some trivial
            ·exact .some trivial
           ·exact .some trivial
          ·exact .some trivial
         ·exact .some trivial
        ·exact .some trivial
       ·exact .some trivial
      ·exact .some trivial
     ·exact .some trivial
    ·exact .some trivial
   ·have:=J1.1 h.1;refine .ge (λL=>?_) λL=>?_
    ·refine .le (λv=>?_) λv=>?_
     ·refine .ge (λM=>?_) λM=>?_
      ·refine .le (λF=>?_) λF=>?_
       ·have:=J1.1 h.c.1;refine .ge (λk=>?_) λk=>?_
        ·refine .le (λr=>?_) λr=>?_
         ·exact .some trivial
         ·exact .some trivial
        ·exact .some trivial
       ·exact .some trivial
      ·exact .some trivial
     ·exact .some trivial
    ·exact .some trivial
  ·have:=J1.1 h.1;refine .ge (λw=>?_) λw=>?_
   ·refine .le (λC=>?_) λC=>?_
    ·refine .ge (λx=>?_) λx=>?_
     ·refine .le (λn=>?_) λn=>?_
      ·have:=J1.1 h.c.1;refine .ge (λJ=>?_) λJ=>?_
       ·refine .le (λQ=>?_) λQ=>?_
        ·exact .some trivial
        ·exact .some trivial
       ·exact .some trivial
      ·exact .some trivial
     ·exact .some trivial
    ·exact .some trivial
   ·exact .some trivial
 ·have:=J1.1 h.1;refine .ge (λo=>?_) λo=>?_
  ·refine .le (λR=>?_) λR=>?_
   ·have:=J1.1 h.2.1;refine .ge (λP=>?_) λP=>?_
    ·refine .le (λO=>?_) λO=>?_
     ·have:=J1.1 h.c.1;refine .ge (λq=>?_) λq=>?_
      ·refine .le (λN=>?_) λN=>?_
       ·have:J0 x1.2.2.2.2.1<=B:=h.e.1.1;refine .le (λj=>?_) λj=>?_
        ·refine .bind (J3H (B:=B) (S:=S) (⟨h.e.1,fkn 1,h.c.1,fkn 1⟩)) λy4 a5=>.ite (λH=>?_) λH=>?_
         ·have:J0 x1.2.2.2.2.2<=B:=h.g.1;refine .le (λA=>?_) λA=>?_
          ·refine .bind (J3H (B:=B) (S:=S) (⟨h.g,fk0,h.c.1,fk0⟩)) λy5 a1=>.some trivial
          ·exact .some trivial
         ·exact .some trivial
        ·exact .some trivial
       ·exact .some trivial
      ·exact .some trivial
     ·exact .some trivial
    ·exact .some trivial
   ·exact .some trivial
  ·exact .some trivial
theorem Jmd{B S:Int}{x1:List Jq}(h:Ty.fit B S (.l Jl) x1)(z:BS B S 0 0:=by omega)(G:B<=9223372036854775807:=by omega):Tot (J3K x1) λy=>Ty.fit 0 0 .b y:=by
 unfold J3K;have:=J4 (l:=x1);have:J0 x1=_:=Jm h;refine .gt (λv=>?_) λv=>?_
 ·exact .some trivial
 ·refine Ja (τ:=Int) (λq=>(x1,x1,J0 x1,q)) (λq=>(Ty.fit 0 0 (.i .i64) q/\0<=q/\(q<=J0 x1\/q<=0))) (λq=>J0 x1-q) ?_ 0 rfl ?_
  ·rintro e ⟨r,C,A⟩;unfold J6C
   try dsimp only
   have:=J1.1 r;refine .lt (λo=>?_) λo=>?_
   ·refine .bind (Jg h) λD j=>.bind (Jm9 j.1) λF x=>.nof (λg=>?_) λg=>?_
    ·refine .gt (λk=>?_) λk=>?_
     ·have:=J0y e 1;refine .bind (Jg h) λE w=>.ge (λn=>?_) λn=>?_
      ·exact .some trivial
      ·have:=Jf e 1;exact .some ⟨J2 .i64 e 1,rfl,⟨J7,om,om⟩,om,om⟩
     ·have:=Jf e 1;exact .some ⟨J2 .i64 e 1,rfl,⟨J7,om,om⟩,om,om⟩
    ·exact .some trivial
   ·exact .some trivial
  ·try dsimp only
   exact⟨fk0,oo,oo⟩
theorem Jsv{B S:Int}{x1:Jq×J6}(h:Ty.fit B S (.pr Jl J3) x1)(e:BS B S 0 0:=by omega):Tot (J6Q x1) λy=>Ty.fit B S Jyw y:=by unfold J6Q;exact .some (⟨trivial,h.2⟩)
theorem J9k{B S:Int}{x1:JLX}(h:Ty.fit B S (.pr (.l Jl) J3) x1)(z:BS B S 0 0:=by omega)(E:B<=9223372036854775807:=by omega):Tot (J1R x1) λy=>Ty.fit B S JO4 y:=by
 unfold J1R;have:J0 x1.1<=B:=h.1.1;have:=J4 (l:=x1.1);have:J0 x1.1=_:=Jm h.1;refine Ja (τ:=J5b) (λq=>(x1.1,J0 x1.1,q.1,q.2)) (λq=>(Ty.fit 0 0 (.i .i64) q.1/\0<=q.1/\(q.1<=J0 x1.1\/q.1<=0))/\Ty.fit B S J3 q.2) (λq=>J0 x1.1-q.1) ?_ (0,x1.2) rfl ?_
 ·rintro⟨e,x⟩ j;dsimp only at j;obtain⟨⟨o,A,D⟩,n⟩:=j;unfold J1B
  try dsimp only
  have:=J1.1 o;refine .lt (λv=>?_) λv=>?_
  ·refine .bind (Jg h.1) λC k=>.bind (Jsv (B:=B) (S:=S) (⟨k.1,n⟩)) λw g=>.ite (λr=>?_) λr=>?_
   ·exact .some (⟨o,g.2⟩)
   ·have:=Jf e 1;exact .some ⟨(J2 .i64 e 1,w.2),rfl,⟨⟨J7,om,om⟩,g.2⟩,om,om⟩
  ·exact .some (⟨fkn (-1),n⟩)
 ·try dsimp only
  exact⟨⟨fk0,oo,oo⟩,h.2⟩
theorem J8j{B S:Int}{x1:JLX}(h:Ty.fit B S (.pr (.l Jl) J3) x1)(e:BS B S 0 0:=by omega)(g:B<=9223372036854775807:=by omega):Tot (J17 x1) λy=>Ty.fit B S Jyw y:=by unfold J17;refine .bind (J9k (B:=B) (S:=S) (h)) λj h1=>.some (⟨trivial,h1.2⟩)
theorem JsP{B S:Int}{x1:JP×J6}(h:Ty.fit B S (.pr JF J3) x1)(e:BS B S 0 0:=by omega):Tot (J6Y x1) λy=>Ty.fit B S Jyw y:=by unfold J6Y;exact .some (⟨trivial,h.2⟩)
theorem J7o{B S:Int}{x1:JLT}(h:Ty.fit B S (.pr (.l JF) J3) x1)(A:BS B S 0 0:=by omega)(F:B<=9223372036854775807:=by omega):Tot (J0B x1) λy=>Ty.fit B S JO4 y:=by
 unfold J0B;have:J0 x1.1<=B:=h.1.1;have:=J4 (l:=x1.1);have:J0 x1.1=_:=Jm h.1;refine Ja (τ:=J5b) (λq=>(x1.1,J0 x1.1,q.1,q.2)) (λq=>(Ty.fit 0 0 (.i .i64) q.1/\0<=q.1/\(q.1<=J0 x1.1\/q.1<=0))/\Ty.fit B S J3 q.2) (λq=>J0 x1.1-q.1) ?_ (0,x1.2) rfl ?_
 ·rintro⟨e,x⟩ j;dsimp only at j;obtain⟨⟨o,C,E⟩,n⟩:=j;unfold J3a
  try dsimp only
  have:=J1.1 o;refine .lt (λv=>?_) λv=>?_
  ·refine .bind (Jg h.1) λD k=>.bind (JsP (B:=B) (S:=S) (⟨k.1.z.u,n⟩)) λw g=>.ite (λr=>?_) λr=>?_
   ·exact .some (⟨o,g.2⟩)
   ·have:=Jf e 1;exact .some ⟨(J2 .i64 e 1,w.2),rfl,⟨⟨J7,om,om⟩,g.2⟩,om,om⟩
  ·exact .some (⟨fkn (-1),n⟩)
 ·try dsimp only
  exact⟨⟨fk0,oo,oo⟩,h.2⟩
theorem J6I{B S:Int}{x1:JLT}(h:Ty.fit B S (.pr (.l JF) J3) x1)(e:BS B S 0 0:=by omega)(g:B<=9223372036854775807:=by omega):Tot (J0p x1) λy=>Ty.fit B S Jyw y:=by unfold J0p;refine .bind (J7o (B:=B) (S:=S) (h)) λj h1=>.some (⟨trivial,h1.2⟩)
theorem JsG{B S:Int}{x1:T_api_Grant×J6}(h:Ty.fit B S (.pr J5 J3) x1)(e:BS B S 0 0:=by omega):Tot (J6P x1) λy=>Ty.fit B S Jyw y:=by unfold J6P;exact .some (⟨trivial,h.2⟩)
theorem J7i{B S:Int}{x1:JLf}(h:Ty.fit B S (.pr (.l J5) J3) x1)(z:BS B S 0 0:=by omega)(E:B<=9223372036854775807:=by omega):Tot (J0C x1) λy=>Ty.fit B S JO4 y:=by
 unfold J0C;have:J0 x1.1<=B:=h.1.1;have:=J4 (l:=x1.1);have:J0 x1.1=_:=Jm h.1;refine Ja (τ:=J5b) (λq=>(x1.1,J0 x1.1,q.1,q.2)) (λq=>(Ty.fit 0 0 (.i .i64) q.1/\0<=q.1/\(q.1<=J0 x1.1\/q.1<=0))/\Ty.fit B S J3 q.2) (λq=>J0 x1.1-q.1) ?_ (0,x1.2) rfl ?_
 ·rintro⟨e,x⟩ j;dsimp only at j;obtain⟨⟨o,A,D⟩,n⟩:=j;unfold J3b
  try dsimp only
  have:=J1.1 o;refine .lt (λv=>?_) λv=>?_
  ·refine .bind (Jg h.1) λC k=>.bind (JsG (B:=B) (S:=S) (⟨k.1,n⟩)) λw g=>.ite (λr=>?_) λr=>?_
   ·exact .some (⟨o,g.2⟩)
   ·have:=Jf e 1;exact .some ⟨(J2 .i64 e 1,w.2),rfl,⟨⟨J7,om,om⟩,g.2⟩,om,om⟩
  ·exact .some (⟨fkn (-1),n⟩)
 ·try dsimp only
  exact⟨⟨fk0,oo,oo⟩,h.2⟩
theorem J2Y{B S:Int}{x1:JLf}(h:Ty.fit B S (.pr (.l J5) J3) x1)(e:BS B S 0 0:=by omega)(g:B<=9223372036854775807:=by omega):Tot (J0d x1) λy=>Ty.fit B S Jyw y:=by unfold J0d;refine .bind (J7i (B:=B) (S:=S) (h)) λj h1=>.some (⟨trivial,h1.2⟩)
theorem Jjs{B S:Int}{x1:J6}(h:Ty.fit B S J3 x1)(O:BC B S 0 0:=by omega):Tot (J3o x1) λy=>Ty.fit 0 0 .b y/\(y=true->J0 x1.2.2.2.2.2.2.1=x1.1):=by
 unfold J3o;refine .bind (J6v (B:=0) (S:=0) (⟨h.1,fkn 1,fkn 64⟩)) λZ h1=>.nof (λF=>?_) λF=>?_
 ·have:=J1.1 h.1;refine .bind (J6v (B:=0) (S:=0) (⟨h.2.1,fkn 1,fkn 1073741825⟩)) λU h5=>.nof (λG=>?_) λG=>?_
  ·have:=J1.1 h.2.1;refine .ne (λE=>?_) λE=>?_
   ·exact .some ⟨trivial,nofun⟩
   ·refine .bind (JvL h.c.1) λy4 H=>.nof (λq=>?_) λq=>?_
    ·refine .bind (JpM h.d.1) λW M=>.nof (λD=>?_) λD=>?_
     ·refine .bind (JC7 h.e.1) λY L=>.nof (λA=>?_) λA=>?_
      ·refine .bind (Jmd h.g.1) λT I=>.nof (λv=>?_) λv=>?_
       ·refine .bind (JeB h.h.1) λV N=>.not (λC=>?_) λC=>?_
        ·exact .some ⟨trivial,nofun⟩
        ·refine .bind (J8j (B:=B) (S:=S) (⟨h.g.1,h⟩)) λy9 n=>.not (λz=>?_) λz=>?_
         ·refine .bind (J6I (B:=B) (S:=S) (⟨n.e.1.2.1,n.2⟩)) λJ j=>.not (λo=>?_) λo=>?_
          ·refine .bind (J2Y (B:=B) (S:=S) (⟨j.g.1.1,j.2⟩)) λR k=>.not (λx=>?_) λx=>?_
           ·refine .bind (J2Y (B:=B) (S:=S) (⟨k.g.1.2,k.2⟩)) λP w=>.not (λr=>?_) λr=>?_
            ·refine .bind (Jup w.2) λK Q=>.some ⟨trivial,λ_=>om⟩
            ·exact .some ⟨trivial,nofun⟩
           ·exact .some ⟨trivial,nofun⟩
          ·exact .some ⟨trivial,nofun⟩
         ·exact .some ⟨trivial,nofun⟩
       ·exact .some ⟨trivial,nofun⟩
      ·exact .some ⟨trivial,nofun⟩
     ·exact .some ⟨trivial,nofun⟩
    ·exact .some ⟨trivial,nofun⟩
  ·exact .some ⟨trivial,nofun⟩
 ·exact .some ⟨trivial,nofun⟩
theorem JuJ{B S:Int}{x1:T_api_Row×Int}(h:Ty.fit B S (.pr J9 (.i .i64)) x1)(e:BS B S 0 0:=by omega):Tot (J7G x1) λy=>Ty.fit 0 0 JGy y:=by unfold J7G;exact .some (⟨trivial,h.2⟩)
theorem J7m{B S:Int}{x1:Jdx}(h:Ty.fit B S JxW x1)(z:BS B S 0 0:=by omega)(E:B<=9223372036854775807:=by omega):Tot (J0V x1) λy=>Ty.fit 0 0 JY y/\(y.1<J0 x1.1):=by
 unfold J0V;have:J0 x1.1<=B:=h.1.1;have:=J4 (l:=x1.1);have:J0 x1.1=_:=Jm h.1;refine Ja (τ:=Jat) (λq=>(x1.1,J0 x1.1,q.1,q.2)) (λq=>(Ty.fit 0 0 (.i .i64) q.1/\0<=q.1/\(q.1<=J0 x1.1\/q.1<=0))/\Ty.fit 0 0 (.i .i64) q.2) (λq=>J0 x1.1-q.1) ?_ (0,x1.2) rfl ?_
 ·rintro⟨e,x⟩ j;dsimp only at j;obtain⟨⟨o,A,D⟩,n⟩:=j;unfold J3e
  try dsimp only
  have:=J1.1 o;refine .lt (λv=>?_) λv=>?_
  ·refine .bind (Jg h.1) λC k=>.bind (JuJ (B:=0) (S:=0) (⟨k.1,n⟩)) λw g=>.ite (λr=>?_) λr=>?_
   ·exact .some ⟨(⟨o,g.2⟩),om⟩
   ·have:=Jf e 1;exact .some ⟨(J2 .i64 e 1,w.2),rfl,⟨⟨J7,om,om⟩,g.2⟩,om,om⟩
  ·exact .some ⟨(⟨fkn (-1),n⟩),om⟩
 ·try dsimp only
  exact⟨⟨fk0,oo,oo⟩,h.2⟩
end Go.Am
end

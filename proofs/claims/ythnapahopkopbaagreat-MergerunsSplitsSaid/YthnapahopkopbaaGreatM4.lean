/-
  Parts of a proof.
-/
import Derived.Test.YthnapahopkopbaaGreatM2
import Derived.Test.YthnapahopkopbaaGreatM3
set_option linter.unusedSimpArgs false
set_option linter.unusedVariables false
section
namespace Go.Am
noncomputable section
set_option maxRecDepth 20000
def J5g(x1:Jw):Option (Jw):=if gtI (J0 x1.1) x1.2 then(J0B x1.1 none (some x1.2)).bind λe=>some (e,0)else some (x1.1,0)
def J5M(x1:JKT):Option (Bool):=if eqI x1.1.2.2.1 x1.2.2.2.1 then if eqI x1.1.2.2.2.1 x1.2.2.2.2.1 then some (eqI x1.2.1 (J1 .i64 x1.1.2.1 1))else some false else some false
def J5i(x1:Int):Option (Bool):=some (neI x1 x1)
def J2A(x1:JG):Option (Int):=(J5i x1.1).bind λg=>(J5i x1.2).bind λe=>if g then if e then some 0 else some (-1)else if e then some 1 else if ltI x1.1 x1.2 then some (-1)else if gtI x1.1 x1.2 then some 1 else some 0
def Jul(z2:Int×(List Int)×JG):Option ((Int×(List Int)×JG)⊕Int):=if ltI z2.2.2.2 z2.2.2.1 then(idx z2.2.1 z2.2.2.2).bind λe=>if neI e z2.1 then some (.inr e)else some (.inl (z2.1,z2.2.1,z2.2.2.1,J1 .i64 z2.2.2.2 1))else some (.inr z2.1)
def J6U(x1:List Int):Option (Int):=Jf (Jul) (0,x1,J0 x1,0)
def J5N(x1:JKA):Option (Int):=(J2A (x1.1.2.2.2.2.2.2.1.1,x1.2.2.2.2.2.2.2.1.1)).bind λg=>(J2A (x1.1.1,x1.2.1)).bind λe=>(J6U [g,e]).bind λh=>some h
def J9I(z2:JMw):Option ((JMw)⊕(List T_api_Entry)):=if eqI (J0 z2.1) 0 then(Jz 128 z2.2.2 z2.2.1).bind λo=>some (.inr o)else if eqI (J0 z2.2.1) 0 then(Jz 128 z2.2.2 z2.1).bind λv=>some (.inr v)else(idx z2.1 0).bind λw=>(idx z2.2.1 0).bind λn=>(J5N (w,n)).bind λk=>if leI k 0 then(idx z2.1 0).bind λr=>(Jz 128 z2.2.2 [r]).bind λq=>(J0B z2.1 (some 1) none).bind λe=>some (.inl (e,z2.2.1,q))else(idx z2.2.1 0).bind λh=>(Jz 128 z2.2.2 [h]).bind λg=>(J0B z2.2.1 (some 1) none).bind λj=>some (.inl (z2.1,j,g))
def J5l(x1:JNN):Option (List T_api_Entry):=Jf (J9I) (x1.1,x1.2,[])
def J4w(x1:Int×T_api_Entry):Option (Bool):=if geI x1.1 0 then some (ltI x1.1 x1.2.1)else some false
def J3M(x1:J2x):Option (Bool):=if leI (J0 x1.2) 12 then if x1.1=false then some (eqS x1.2 [])else some true else some false
def J7B(x1:Int):Option (Bool):=if geI x1 0 then some (ltI x1 64)else some false
def J5O(x1:J1M):Option (Bool):=(J7B x1.1).bind λg=>if g then if geI x1.2.1 0 then if ltI x1.2.1 16 then(J3M x1.2.2.1).bind λe=>if e then(J3M x1.2.2.2).bind λh=>some h else some false else some false else some false else some false
def J5G(x1:J1M):Option (Bool):=some (eqT J0R x1 (0,0,(false,[]),false,[]))
def J21(x1:T_api_Entry):Option (Bool):=some true
def J63(x1:T_api_Entry):Option (Bool):=if geI x1.2.2.2.2.2.1 1 then some (leI x1.2.2.2.2.2.1 x1.2.2.2.1)else some false
def JdH(x1:J1M):Option (Bool):=if eqT J0R x1 (x1.1,0,(false,[]),false,[])then if geI x1.1 0 then some (ltI x1.1 64)else some false else some false
def Jyb(x1:Unit):Option (Bool×Bool×Bool×Bool×Bool×Unit×Unit×Bool×Bool×Bool×Bool×Bool×Bool×Bool×Bool×Bool×Bool×Bool×Bool×Bool×Bool×Bool×Bool×Bool×Bool×Bool×Bool×Bool×Bool×Bool×Bool×Bool×Bool×Bool×Bool×Bool×Bool×Bool×Bool×Bool×Bool×Bool×Bool×Bool×Bool×Bool×Bool):=some (false,false,false,false,false,(),(),true,false,true,false,false,true,true,true,true,false,true,true,false,false,false,true,true,false,false,false,true,true,false,false,false,false,false,false,false,true,false,false,false,true,false,false,false,false,false,true)
def J8w(x1:T_api_Entry):Option (Bool):=if ltI x1.1 1=false then if gtI x1.1 1099511627776=false then if ltI x1.2.1 1=false then if gtI x1.2.1 8=false then(J4w (x1.2.2.2.1,x1)).bind λE=>if Jo E=false then(J4w (x1.2.2.2.2.1,x1)).bind λy=>if Jo y=false then(J4w (x1.2.2.2.2.2.1,x1)).bind λD=>if Jo D then some false else if eqI x1.2.1 8 then if neI x1.2.2.1 0=false then if neI x1.2.2.2.1 0 then some false else if neI x1.2.2.2.2.1 0 then some false else if neI x1.2.2.2.2.2.1 0 then some false else if leI (J0 x1.2.2.2.2.2.2.2) 8192 then(J21 x1).bind λA=>if A then(J5G x1.2.2.2.2.2.2.1).bind λB=>some B else some false else some false else some false else if eqI x1.2.1 7 then if neI x1.2.2.1 0=false then if neI x1.2.2.2.1 0 then some false else if neI x1.2.2.2.2.1 0 then some false else if neS x1.2.2.2.2.2.2.2 []then some false else if leI (J0 x1.2.2.2.2.2.2.2) 8192 then(J21 x1).bind λx=>if x then(JdH x1.2.2.2.2.2.2.1).bind λz=>some z else some false else some false else some false else if eqI x1.2.1 6 then if neI x1.2.2.1 0=false then if neI x1.2.2.2.1 0 then some false else if neI x1.2.2.2.2.1 0 then some false else if neI x1.2.2.2.2.2.1 0 then some false else if leI (J0 x1.2.2.2.2.2.2.2) 8192 then(J21 x1).bind λC=>if C then(J5G x1.2.2.2.2.2.2.1).bind λe=>some e else some false else some false else some false else if eqI x1.2.1 5 then if ltI x1.2.2.1 1=false then if gtI x1.2.2.1 1073741824 then some false else if eqI x1.2.2.2.1 0 then some false else if neI x1.2.2.2.2.1 0 then some false else if neI x1.2.2.2.2.2.1 0 then some false else if neS x1.2.2.2.2.2.2.2 []then some false else if leI (J0 x1.2.2.2.2.2.2.2) 8192 then(J21 x1).bind λw=>if w then(J5G x1.2.2.2.2.2.2.1).bind λv=>some v else some false else some false else some false else if eqI x1.2.1 4 then if ltI x1.2.2.1 1=false then if gtI x1.2.2.1 1073741824 then some false else if eqI x1.2.2.2.1 0 then some false else if neI x1.2.2.2.2.1 0 then some false else if neI x1.2.2.2.2.2.1 0 then some false else if neS x1.2.2.2.2.2.2.2 []then some false else if leI (J0 x1.2.2.2.2.2.2.2) 8192 then(J21 x1).bind λg=>if g then(J5G x1.2.2.2.2.2.2.1).bind λq=>some q else some false else some false else some false else if eqI x1.2.1 3 then if ltI x1.2.2.1 1=false then if gtI x1.2.2.1 1073741824 then some false else if eqI x1.2.2.2.1 0 then some false else if neI x1.2.2.2.2.1 0 then some false else if neI x1.2.2.2.2.2.1 0 then some false else if neS x1.2.2.2.2.2.2.2 []then some false else if leI (J0 x1.2.2.2.2.2.2.2) 8192 then(J21 x1).bind λh=>if h then(J5G x1.2.2.2.2.2.2.1).bind λr=>some r else some false else some false else some false else if eqI x1.2.1 2 then if ltI x1.2.2.1 1=false then if gtI x1.2.2.1 1073741824 then some false else if eqI x1.2.2.2.1 0 then some false else if neS x1.2.2.2.2.2.2.2 []then some false else if leI (J0 x1.2.2.2.2.2.2.2) 8192 then(J63 x1).bind λj=>if j then(J5O x1.2.2.2.2.2.2.1).bind λk=>some k else some false else some false else some false else if eqI x1.2.1 1 then if ltI x1.2.2.1 1=false then if gtI x1.2.2.1 1073741824 then some false else if neI x1.2.2.2.2.2.1 0 then some false else if neS x1.2.2.2.2.2.2.2 []then some false else if leI (J0 x1.2.2.2.2.2.2.2) 8192 then(J21 x1).bind λo=>if o then(J5O x1.2.2.2.2.2.2.1).bind λn=>some n else some false else some false else some false else if eqI x1.2.1 0 then if neI x1.2.2.1 0=false then if neI x1.2.2.2.1 0 then some false else if neI x1.2.2.2.2.1 0 then some false else if neI x1.2.2.2.2.2.1 0 then some false else if neS x1.2.2.2.2.2.2.2 []then some false else if leI (J0 x1.2.2.2.2.2.2.2) 8192 then none else some false else some false else none else some false else some false else some false else some false else some false else some false
def J6N(x1:JC):Option (Bool):=if geI x1.1 1 then if leI x1.1 x1.2.1 then if leI x1.2.1 1099511627776 then if geI x1.2.2.1 0 then if leI x1.2.2.1 x1.2.2.2.1 then if ltI x1.2.2.2.1 64 then if geI x1.2.2.2.2.1 0 then some (leI x1.2.2.2.2.1 8)else some false else some false else some false else some false else some false else some false else some false
def J9q(x1:T_api_Entry):Option (Bool):=if eqI x1.2.1 1=false then some (eqI x1.2.1 2)else some true
def J8S(x1:JC×T_api_Entry):Option (Bool):=(J9q x1.2).bind λe=>if e then if geI x1.2.2.2.2.2.2.2.1.1 x1.1.2.2.1 then if leI x1.2.2.2.2.2.2.2.1.1 x1.1.2.2.2.1 then if geI x1.2.1 x1.1.1 then some (leI x1.2.1 x1.1.2.1)else some false else some false else some false else some false
def JhR(z3:JKe):Option ((JKe)⊕Bool):=if ltI z3.2.2.1 z3.2.1 then(idx z3.1 z3.2.2.1).bind λe=>(J8w e).bind λn=>if Jo n=false then(J8S (z3.2.2.2,e)).bind λj=>if Jo j then some (.inr false)else if eqI z3.2.2.1 0=false then(idx z3.2.2.2.2.2.2.2.2 (JF .i64 z3.2.2.1 1)).bind λh=>if ltI h.2.2.2.2.2.2.1.1 e.2.2.2.2.2.2.1.1 then if geI e.2.2.2.2.1 z3.2.2.2.1 then some (.inr false)else some (.inl (z3.1,z3.2.1,J1 .i64 z3.2.2.1 1,z3.2.2.2))else(idx z3.2.2.2.2.2.2.2.2 (JF .i64 z3.2.2.1 1)).bind λg=>(J5N (g,e)).bind λk=>if geI k 0=false then if neI e.2.2.2.2.1 g.1 then some (.inr false)else some (.inl (z3.1,z3.2.1,J1 .i64 z3.2.2.1 1,z3.2.2.2))else some (.inr false)else if geI e.2.2.2.2.1 z3.2.2.2.1 then some (.inr false)else some (.inl (z3.1,z3.2.1,J1 .i64 z3.2.2.1 1,z3.2.2.2))else some (.inr false)else some (.inr true)
def J3H(x1:JC):Option (Bool):=(J6N x1).bind λe=>if Jo e=false then if gtI (J0 x1.2.2.2.2.2) 4096 then some false else Jf (JhR) (x1.2.2.2.2.2,J0 x1.2.2.2.2.2,0,x1)else some false
def J2z(x1:JKT):Option (Jes):=(J3H x1.1).bind λj=>if Jo j=false then(J3H x1.2).bind λh=>if Jo h then some ((0,0,0,0,0,[]),40)else(J5M x1).bind λk=>if Jo k then some ((0,0,0,0,0,[]),41)else if geI (J31 x1.1.2.2.2.2.1 x1.2.2.2.2.2.1) 8=false then if gtI (J1 .i64 (J0 x1.1.2.2.2.2.2) (J0 x1.2.2.2.2.2.2)) 4096 then some ((0,0,0,0,0,[]),21)else(J5l (x1.1.2.2.2.2.2,x1.2.2.2.2.2.2)).bind λe=>(J3H (x1.1.1,x1.2.2.1,x1.1.2.2.1,x1.1.2.2.2.1,J1 .i64 (J31 x1.1.2.2.2.2.1 x1.2.2.2.2.2.1) 1,e)).bind λg=>if Jo g then some ((0,0,0,0,0,[]),13)else some ((x1.1.1,x1.2.2.1,x1.1.2.2.1,x1.1.2.2.2.1,J1 .i64 (J31 x1.1.2.2.2.2.1 x1.2.2.2.2.2.1) 1,e),0)else some ((0,0,0,0,0,[]),21)else some ((0,0,0,0,0,[]),40)
def J53(x1:Unit):Option (Bool):=(J2z ((1,2,0,0,0,[]),3,3,0,0,0,[])).bind λe=>if eqI e.2 0 then if eqI e.1.1 1 then if eqI e.1.2.1 3 then some (eqI e.1.2.2.2.2.1 1)else some false else some false else some false
def J8X(x1:JC):Option (JC):=some (x1.1,x1.2.1,x1.2.2.1,x1.2.2.2.1,0,x1.2.2.2.2.2)
def J3h(g:(JbV)->Option (JbV))(x1:JbV):Option (JbV):=if geI x1.2.2 (J0 x1.2.1)=false then if ltI x1.1 1 then some (0,x1.2)else(idx x1.2.1 x1.2.2).bind λh=>if gtI x1.1 256 then(g (256,x1.2.1,J1 .i64 x1.2.2 1)).bind λe=>(Jjm (J1 .i64 (J32 .i64 256 (cvI .i64 h)) e.1) x1.1).bind λj=>some (j,e.2)else(Jjm (cvI .i64 h) x1.1).bind λk=>some (k,x1.2.1,J1 .i64 x1.2.2 1)else some (0,x1.2)
def Jm:(JbV)->Option (JbV):=Jgh J3h 100
def Jau(e:JGd):Option ((JGd)⊕(JKG)):=if ltI e.2.1 e.1 then(Jm (3,e.2.2.1)).bind λg=>(Jz 1 e.2.2.2 [cvI .u8 (J1 .i64 97 g.1)]).bind λh=>some (.inl (e.1,J1 .i64 e.2.1 1,g.2,h))else some (.inr (toStr e.2.2.2,e.2.2.1))
def JaA(e:JGd):Option ((JGd)⊕(JKG)):=if ltI e.2.1 e.1 then(Jm (3,e.2.2.1)).bind λg=>(Jz 1 e.2.2.2 [cvI .u8 (J1 .i64 97 g.1)]).bind λh=>some (.inl (e.1,J1 .i64 e.2.1 1,g.2,h))else some (.inr (toStr e.2.2.2,e.2.2.1))
def J3i(x1:Jw):Option (JKG):=(Jm (5,x1)).bind λh=>(Jm (6,h.2)).bind λg=>if eqI g.1 0 then(Jm (14,g.2)).bind λe=>(mkS 1 0 e.1 0).bind λk=>Jf (Jau) (e.1,0,e.2,k)else(mkS 1 0 h.1 0).bind λj=>Jf (JaA) (h.1,0,g.2,j)
def J0l(x1:Jw):Option (JbV):=(Jm (10,x1)).bind λe=>if eqI e.1 0 then(Jm (3,e.2)).bind λg=>some (JF .i64 (-1) g.1,g.2)else if eqI e.1 1 then(Jm (16,e.2)).bind λh=>(idx [9223372036854775807,(-9223372036854775808),1099511627776,1099511627777,1073741824,1073741825,64,63,16,15,256,255,4294967296,65536,256,255] h.1).bind λk=>some (k,h.2)else(Jm (20,e.2)).bind λj=>some j
def J3v(x1:JbV):Option (J36×Jw):=(Jm (12,x1.2)).bind λj=>(idx [1,1,2,2,2,3,4,5,6,7,2,4] j.1).bind λe=>if eqI e 1 then(Jm (x1.1,j.2)).bind λW=>(Jm (2,W.2)).bind λB=>if eqI e 2 then(J3i B.2).bind λV=>(J0B V.1 none (some (JaE (J0 V.1) 12))).bind λY=>(Jm (40,V.2)).bind λU=>if eqI U.1 39 then(J0l U.2).bind λZ=>(J0l Z.2).bind λC=>some ((e,Z.1,C.1,Y),C.2)else some ((e,W.1,B.1,Y),U.2)else(Jm (40,B.2)).bind λz=>if eqI z.1 39 then(J0l z.2).bind λM=>(J0l M.2).bind λE=>some ((e,M.1,E.1,[]),E.2)else some ((e,W.1,B.1,[]),z.2)else if eqI e 2 then(Jm (x1.1,j.2)).bind λx=>(Jm (2,x.2)).bind λh=>if eqI e 2 then(J3i h.2).bind λy=>(J0B y.1 none (some (JaE (J0 y.1) 12))).bind λH=>(Jm (40,y.2)).bind λv=>if eqI v.1 39 then(J0l v.2).bind λK=>(J0l K.2).bind λI=>some ((e,K.1,I.1,H),I.2)else some ((e,x.1,h.1,H),v.2)else(Jm (40,h.2)).bind λo=>if eqI o.1 39 then(J0l o.2).bind λQ=>(J0l Q.2).bind λG=>some ((e,Q.1,G.1,[]),G.2)else some ((e,x.1,h.1,[]),o.2)else if eqI e 3 then(Jm (x1.1,j.2)).bind λq=>(Jm (2,q.2)).bind λg=>if eqI e 2 then(J3i g.2).bind λr=>(J0B r.1 none (some (JaE (J0 r.1) 12))).bind λP=>(Jm (40,r.2)).bind λA=>if eqI A.1 39 then(J0l A.2).bind λS=>(J0l S.2).bind λO=>some ((e,S.1,O.1,P),O.2)else some ((e,q.1,g.1,P),A.2)else(Jm (40,g.2)).bind λn=>if eqI n.1 39 then(J0l n.2).bind λD=>(J0l D.2).bind λL=>some ((e,D.1,L.1,[]),L.2)else some ((e,q.1,g.1,[]),n.2)else if eqI e 7 then(Jm (2,j.2)).bind λT=>(Jm (40,T.2)).bind λk=>if eqI k.1 39 then(J0l k.2).bind λF=>(J0l F.2).bind λR=>some ((e,F.1,R.1,[]),R.2)else some ((e,0,T.1,[]),k.2)else(Jm (40,j.2)).bind λw=>if eqI w.1 39 then(J0l w.2).bind λJ=>(J0l J.2).bind λN=>some ((e,J.1,N.1,[]),N.2)else some ((e,0,0,[]),w.2)
def J5C(x1:JFG):Option (J4l×Jw):=(Jm (16,x1.2.2.2)).bind λe=>if eqI e.1 0 then some ((1,0,0,0,0,0,0,0,[]),e.2)else if eqI e.1 1 then some ((1,0,0,0,0,0,0,0,[]),e.2)else if eqI e.1 2 then(Jm (x1.1,e.2)).bind λn=>some ((3,0,n.1,0,0,0,0,0,[]),n.2)else if eqI e.1 3 then some ((4,0,0,0,0,0,0,0,[]),e.2)else if eqI e.1 4 then some ((5,0,0,0,0,0,0,0,[]),e.2)else if eqI e.1 5 then if x1.2.2.1 then(Jm (4,e.2)).bind λr=>(Jm (90,r.2)).bind λv=>(Jm (J1 .i64 x1.1 1,v.2)).bind λk=>(Jm (257,k.2)).bind λj=>some ((6,0,JF .i64 k.1 1,J32 .i64 r.1 v.1,j.1,0,0,0,[]),j.2)else(Jm (x1.2.1,e.2)).bind λq=>(J3v (x1.1,q.2)).bind λo=>some ((2,J1 .i64 1 q.1,0,0,0,o.1),o.2)else if eqI e.1 6 then some ((7,0,0,0,0,0,0,0,[]),e.2)else(Jm (x1.2.1,e.2)).bind λg=>(J3v (x1.1,g.2)).bind λh=>some ((2,J1 .i64 1 g.1,0,0,0,h.1),h.2)
def J7U(z3:JMZ):Option ((JMZ)⊕(JNw)):=if gtI z3.2.2.1 0 then(J5C (z3.1,5,z3.2.1,z3.2.2.2.1)).bind λe=>(Jz 80 z3.2.2.2.2 [e.1]).bind λg=>some (.inl (z3.1,z3.2.1,JF .i64 z3.2.2.1 1,e.2,g))else some (.inr (z3.2.2.2.2,z3.2.2.2.1))
def J3T(x1:JFG):Option (JNw):=(Jm (J1 .i64 x1.2.1 1,x1.2.2.2)).bind λe=>Jf (J7U) (x1.1,x1.2.2.1,e.1,e.2,[(1,0,0,0,0,0,0,0,[]),(1,0,0,0,0,0,0,0,[])])
def Je4(z2:Int×Int×(List (List UInt8))):Option ((Int×Int×(List (List UInt8)))⊕(List (List UInt8))):=if ltI z2.2.1 z2.1 then(mkS 1 256 256 0).bind λe=>(Jz 16 z2.2.2 [toStr e]).bind λg=>some (.inl (z2.1,J1 .i64 z2.2.1 1,g))else some (.inr z2.2.2)
def J7y(x1:Int):Option (List (List UInt8)):=Jf (Je4) (x1,0,[])
def Jbn(x1:Int):Option (J5E):=if ltI x1 1=false then if gtI x1 64 then some (([],0,[],false,[]),1)else(J7y x1).bind λe=>some ((e,0,[],false,[]),0)else some (([],0,[],false,[]),1)
def JDk(x1:Unit):Option (J04):=some (1,[],0)
def J8b(x1:Int):Option (J6K):=if ltI x1 1=false then if gtI x1 64 then some ((0,[],0),1)else some ((x1,[],0),0)else some ((0,[],0),1)
def J8g(x1:Int):Option (JoL):=if ltI x1 1=false then if gtI x1 64 then some ([],1)else(mkS 24 x1 x1 (0,0,0)).bind λe=>some (e,0)else some ([],1)
def Jb6(x1:JG):Option (J1F):=if ltI x1.1 1=false then if gtI x1.1 64=false then if ltI x1.2 1=false then if gtI x1.2 64 then some ((0,0,(0,[],0),(0,[],0),([],[]),[],[],[]),1)else(J8b x1.2).bind λg=>(J8g x1.1).bind λe=>some ((x1.1,1,(1,[],0),g.1,([],[]),[],e.1,[]),0)else some ((0,0,(0,[],0),(0,[],0),([],[]),[],[],[]),1)else some ((0,0,(0,[],0),(0,[],0),([],[]),[],[],[]),1)else some ((0,0,(0,[],0),(0,[],0),([],[]),[],[],[]),1)
def Jbo(x1:JG):Option (J3r):=(Jb6 x1).bind λg=>if neI g.2 0 then some (((0,0,(0,[],0),(0,[],0),([],[]),[],[],[]),[],0,[],false,[]),g.2)else(Jbn x1.1).bind λe=>if neI e.2 0 then some (((0,0,(0,[],0),(0,[],0),([],[]),[],[],[]),[],0,[],false,[]),e.2)else some ((g.1,e.1),0)
def J2u(x1:JG):Option (Bool):=if geI x1.1 0 then some (ltI x1.1 x1.2)else some false
def J0T(x1:J2x):Option (Bool):=if leI (J0 x1.2) 12 then if x1.1=false then some (eqS x1.2 [])else some true else some false
def J26(x1:J1M):Option (Bool):=if geI x1.1 0 then if ltI x1.1 64 then if geI x1.2.1 0 then if ltI x1.2.1 16 then(J0T x1.2.2.1).bind λg=>if g then(J0T x1.2.2.2).bind λe=>some e else some false else some false else some false else some false else some false
def J3q(x1:T_api_Entry):Option (JoF):=if eqI x1.2.1 1 then(J26 x1.2.2.2.2.2.2.1).bind λg=>if eqI x1.2.1 2 then if g then if gtI x1.2.2.2.1 0 then if geI x1.2.2.2.2.2.1 1 then if leI x1.2.2.2.2.2.1 x1.2.2.2.1 then if geI x1.2.2.1 1 then some ((x1.1,x1.2.1,x1.2.2.1,x1.2.2.2.1,x1.2.2.2.2.1,x1.2.2.2.2.2.1,x1.2.2.2.2.2.2.1,[]),leI x1.2.2.1 1073741824)else some ((x1.1,x1.2.1,x1.2.2.1,x1.2.2.2.1,x1.2.2.2.2.1,x1.2.2.2.2.2.1,x1.2.2.2.2.2.2.1,[]),false)else some ((x1.1,x1.2.1,x1.2.2.1,x1.2.2.2.1,x1.2.2.2.2.1,x1.2.2.2.2.2.1,x1.2.2.2.2.2.2.1,[]),false)else some ((x1.1,x1.2.1,x1.2.2.1,x1.2.2.2.1,x1.2.2.2.2.1,x1.2.2.2.2.2.1,x1.2.2.2.2.2.2.1,[]),false)else some ((x1.1,x1.2.1,x1.2.2.1,x1.2.2.2.1,x1.2.2.2.2.1,x1.2.2.2.2.2.1,x1.2.2.2.2.2.2.1,[]),false)else some ((x1.1,x1.2.1,x1.2.2.1,x1.2.2.2.1,x1.2.2.2.2.1,x1.2.2.2.2.2.1,x1.2.2.2.2.2.2.1,[]),false)else if g then if geI x1.2.2.1 1 then some ((x1.1,x1.2.1,x1.2.2.1,x1.2.2.2.1,x1.2.2.2.2.1,0,x1.2.2.2.2.2.2.1,[]),leI x1.2.2.1 1073741824)else some ((x1.1,x1.2.1,x1.2.2.1,x1.2.2.2.1,x1.2.2.2.2.1,0,x1.2.2.2.2.2.2.1,[]),false)else some ((x1.1,x1.2.1,x1.2.2.1,x1.2.2.2.1,x1.2.2.2.2.1,0,x1.2.2.2.2.2.2.1,[]),false)else if eqI x1.2.1 2 then(J26 x1.2.2.2.2.2.2.1).bind λe=>if eqI x1.2.1 2 then if e then if gtI x1.2.2.2.1 0 then if geI x1.2.2.2.2.2.1 1 then if leI x1.2.2.2.2.2.1 x1.2.2.2.1 then if geI x1.2.2.1 1 then some ((x1.1,x1.2.1,x1.2.2.1,x1.2.2.2.1,x1.2.2.2.2.1,x1.2.2.2.2.2.1,x1.2.2.2.2.2.2.1,[]),leI x1.2.2.1 1073741824)else some ((x1.1,x1.2.1,x1.2.2.1,x1.2.2.2.1,x1.2.2.2.2.1,x1.2.2.2.2.2.1,x1.2.2.2.2.2.2.1,[]),false)else some ((x1.1,x1.2.1,x1.2.2.1,x1.2.2.2.1,x1.2.2.2.2.1,x1.2.2.2.2.2.1,x1.2.2.2.2.2.2.1,[]),false)else some ((x1.1,x1.2.1,x1.2.2.1,x1.2.2.2.1,x1.2.2.2.2.1,x1.2.2.2.2.2.1,x1.2.2.2.2.2.2.1,[]),false)else some ((x1.1,x1.2.1,x1.2.2.1,x1.2.2.2.1,x1.2.2.2.2.1,x1.2.2.2.2.2.1,x1.2.2.2.2.2.2.1,[]),false)else some ((x1.1,x1.2.1,x1.2.2.1,x1.2.2.2.1,x1.2.2.2.2.1,x1.2.2.2.2.2.1,x1.2.2.2.2.2.2.1,[]),false)else if e then if geI x1.2.2.1 1 then some ((x1.1,x1.2.1,x1.2.2.1,x1.2.2.2.1,x1.2.2.2.2.1,0,x1.2.2.2.2.2.2.1,[]),leI x1.2.2.1 1073741824)else some ((x1.1,x1.2.1,x1.2.2.1,x1.2.2.2.1,x1.2.2.2.2.1,0,x1.2.2.2.2.2.2.1,[]),false)else some ((x1.1,x1.2.1,x1.2.2.1,x1.2.2.2.1,x1.2.2.2.2.1,0,x1.2.2.2.2.2.2.1,[]),false)else if eqI x1.2.1 3 then if geI x1.2.2.1 1 then if leI x1.2.2.1 1073741824 then some ((x1.1,x1.2.1,x1.2.2.1,x1.2.2.2.1,0,0,(0,0,(false,[]),false,[]),[]),gtI x1.2.2.2.1 0)else some ((x1.1,x1.2.1,x1.2.2.1,x1.2.2.2.1,0,0,(0,0,(false,[]),false,[]),[]),false)else some ((x1.1,x1.2.1,x1.2.2.1,x1.2.2.2.1,0,0,(0,0,(false,[]),false,[]),[]),false)else if eqI x1.2.1 4 then if geI x1.2.2.1 1 then if leI x1.2.2.1 1073741824 then some ((x1.1,x1.2.1,x1.2.2.1,x1.2.2.2.1,0,0,(0,0,(false,[]),false,[]),[]),gtI x1.2.2.2.1 0)else some ((x1.1,x1.2.1,x1.2.2.1,x1.2.2.2.1,0,0,(0,0,(false,[]),false,[]),[]),false)else some ((x1.1,x1.2.1,x1.2.2.1,x1.2.2.2.1,0,0,(0,0,(false,[]),false,[]),[]),false)else if eqI x1.2.1 5 then if geI x1.2.2.1 1 then if leI x1.2.2.1 1073741824 then some ((x1.1,x1.2.1,x1.2.2.1,x1.2.2.2.1,0,0,(0,0,(false,[]),false,[]),[]),gtI x1.2.2.2.1 0)else some ((x1.1,x1.2.1,x1.2.2.1,x1.2.2.2.1,0,0,(0,0,(false,[]),false,[]),[]),false)else some ((x1.1,x1.2.1,x1.2.2.1,x1.2.2.2.1,0,0,(0,0,(false,[]),false,[]),[]),false)else if eqI x1.2.1 6 then some ((x1.1,x1.2.1,0,0,0,0,(0,0,(false,[]),false,[]),x1.2.2.2.2.2.2.2),leI (J0 x1.2.2.2.2.2.2.2) 8192)else if eqI x1.2.1 8 then some ((x1.1,x1.2.1,0,0,0,0,(0,0,(false,[]),false,[]),x1.2.2.2.2.2.2.2),leI (J0 x1.2.2.2.2.2.2.2) 8192)else if eqI x1.2.1 7 then if geI x1.2.2.2.2.2.2.1.1 0 then some ((x1.1,x1.2.1,0,0,0,x1.2.2.2.2.2.1,(x1.2.2.2.2.2.2.1.1,0,(false,[]),false,[]),[]),ltI x1.2.2.2.2.2.2.1.1 64)else some ((x1.1,x1.2.1,0,0,0,x1.2.2.2.2.2.1,(x1.2.2.2.2.2.2.1.1,0,(false,[]),false,[]),[]),false)else some ((x1.1,x1.2.1,0,0,0,0,(0,0,(false,[]),false,[]),[]),false)
def J09(x1:T_api_Entry):Option (Bool):=(J3q x1).bind λe=>if e.2 then if eqT J4 e.1 x1 then if geI x1.1 1 then if leI x1.1 1099511627776 then(J2u (x1.2.2.2.1,x1.1)).bind λg=>if g then(J2u (x1.2.2.2.2.1,x1.1)).bind λh=>if h then(J2u (x1.2.2.2.2.2.1,x1.1)).bind λj=>some j else some false else some false else some false else some false else some false else some false
def J29(x1:J04):Option (Int):=some (JF .i64 (J1 .i64 x1.1 (J0 x1.2.1)) 1)
def J9U(z3:Int×J04):Option ((Int×J04)⊕Bool):=if ltI z3.1 (J0 z3.2.2.1)then(idx z3.2.2.1 z3.1).bind λe=>if neI e.1 (J1 .i64 z3.2.1 z3.1)=false then(idx z3.2.2.1 z3.1).bind λg=>(J09 g).bind λh=>if Jo h then some (.inr false)else some (.inl (J1 .i64 z3.1 1,z3.2))else some (.inr false)else some (.inr true)
def J0f(x1:J04):Option (Bool):=if ltI x1.1 1=false then if gtI x1.1 1099511627776=false then if gtI (J0 x1.2.1) 4096=false then if ltI x1.2.2 (JF .i64 x1.1 1)=false then(J29 x1).bind λe=>if gtI x1.2.2 e then some false else Jf (J9U) (0,x1)else some false else some false else some false else some false
def J2q(x1:J6M):Option (J6M):=(J0f x1.1).bind λg=>if Jo g then some ((0,[],0),26)else(J29 x1.1).bind λe=>if gtI x1.2 e then some ((0,[],0),14)else some ((x1.1.1,x1.1.2.1,J31 x1.1.2.2 x1.2),0)
def J3I(x1:J04):Option (Int):=(J0f x1).bind λg=>if Jo g then some 0 else(J29 x1).bind λe=>some e
def Jv(x1:Int):Option (J0H):=some (5,0,0,(false,[]),x1)
def Jfn(e:Jew):Option ((Jew)⊕Bool):=if ltI e.1 (J0 e.2.2.2.2.2.2)then(idx e.2.2.2.2.2.2 e.1).bind λk=>if ltI k 0=false then(idx e.2.2.2.2.2.2 e.1).bind λj=>if gtI j e.2.2.2.1=false then if gtI e.1 0 then(idx e.2.2.2.2.2.2 (JF .i64 e.1 1)).bind λg=>(idx e.2.2.2.2.2.2 e.1).bind λh=>if gtI g h then some (.inr false)else some (.inl (J1 .i64 e.1 1,e.2))else some (.inl (J1 .i64 e.1 1,e.2))else some (.inr false)else some (.inr false)else some (.inr true)
def Jf5(z2:Jew):Option ((Jew)⊕Bool):=if ltI z2.1 (J0 z2.2.2.2.2.2.1)then(idx z2.2.2.2.2.2.1 z2.1).bind λg=>if ltI g 1=false then(idx z2.2.2.2.2.2.1 z2.1).bind λh=>if gtI h z2.2.2.2.1=false then if gtI z2.1 0 then(idx z2.2.2.2.2.2.1 (JF .i64 z2.1 1)).bind λj=>(idx z2.2.2.2.2.2.1 z2.1).bind λe=>if geI j e then some (.inr false)else some (.inl (J1 .i64 z2.1 1,z2.2))else some (.inl (J1 .i64 z2.1 1,z2.2))else some (.inr false)else some (.inr false)else Option.map .inr (Jf (Jfn) (0,z2.2))
def JfS(e:Jew):Option ((Jew)⊕Bool):=if ltI e.1 (J0 e.2.2.2.2.2.2)then(idx e.2.2.2.2.2.2 e.1).bind λj=>if ltI j 0=false then(idx e.2.2.2.2.2.2 e.1).bind λh=>if gtI h e.2.2.2.1=false then if gtI e.1 0 then(idx e.2.2.2.2.2.2 (JF .i64 e.1 1)).bind λk=>(idx e.2.2.2.2.2.2 e.1).bind λg=>if gtI k g then some (.inr false)else some (.inl (J1 .i64 e.1 1,e.2))else some (.inl (J1 .i64 e.1 1,e.2))else some (.inr false)else some (.inr false)else some (.inr true)
def Jga(e:Jew):Option ((Jew)⊕Bool):=if ltI e.1 (J0 e.2.2.2.2.2.1)then(idx e.2.2.2.2.2.1 e.1).bind λk=>if ltI k 1=false then(idx e.2.2.2.2.2.1 e.1).bind λh=>if gtI h e.2.2.2.1=false then if gtI e.1 0 then(idx e.2.2.2.2.2.1 (JF .i64 e.1 1)).bind λg=>(idx e.2.2.2.2.2.1 e.1).bind λj=>if geI g j then some (.inr false)else some (.inl (J1 .i64 e.1 1,e.2))else some (.inl (J1 .i64 e.1 1,e.2))else some (.inr false)else some (.inr false)else Option.map .inr (Jf (JfS) (0,e.2))
def J28(x1:Js):Option (Bool):=if ltI x1.1 1=false then if gtI x1.1 1073741824=false then if ltI x1.2.1 1=false then if gtI x1.2.1 3=false then if ltI x1.2.2.1 0=false then if gtI x1.2.2.1 1099511627776=false then if gtI (J0 x1.2.2.2.2.1) 4096=false then if gtI (J0 x1.2.2.2.2.2) 8 then some false else if ltI x1.2.2.2.1 0=false then if gtI x1.2.2.2.1 x1.2.2.1=false then if neI x1.2.1 2 then if neI x1.2.2.2.1 0 then some false else Jf (Jf5) (0,x1)else Jf (Jga) (0,x1)else some false else some false else some false else some false else some false else some false else some false else some false else some false
def J9x(z2:J2g):Option ((J2g)⊕Bool):=if ltI z2.2 (J0 z2.1)then(idx z2.1 z2.2).bind λg=>(J28 g).bind λh=>if Jo h=false then if gtI z2.2 0 then(idx z2.1 (JF .i64 z2.2 1)).bind λj=>(idx z2.1 z2.2).bind λe=>if geI j.1 e.1 then some (.inr false)else some (.inl (z2.1,J1 .i64 z2.2 1))else some (.inl (z2.1,J1 .i64 z2.2 1))else some (.inr false)else some (.inr true)
def J0W(x1:List Js):Option (Bool):=if gtI (J0 x1) 64 then some false else Jf (J9x) (x1,0)
def J1L(z2:JtV):Option ((JtV)⊕Int):=if ltI z2.2.2 (J0 z2.1)then(idx z2.1 z2.2.2).bind λe=>if eqI e.1 z2.2.1 then some (.inr z2.2.2)else some (.inl (z2.1,z2.2.1,J1 .i64 z2.2.2 1))else some (.inr (-1))
def J1l(x1:J2g):Option (Int):=Jf (J1L) (x1.1,x1.2,0)
def JeK(e:JHC):Option ((JHC)⊕(J2g)):=if ltI e.2.2.1 (J0 e.1)then(idx e.1 e.2.2.1).bind λv=>if ltI v.1 e.2.1 then(idx e.1 e.2.2.1).bind λo=>(Jz 80 e.2.2.2 [o]).bind λn=>some (.inl (e.1,e.2.1,J1 .i64 e.2.2.1 1,n))else Option.map .inr ((Jz 80 e.2.2.2 [(e.2.1,1,0,0,[],[])]).bind λr=>(J0B e.1 (some (J0 e.2.2.2)) none).bind λq=>(Jz 80 r q).bind λg=>some (g,0))else Option.map .inr ((Jz 80 e.2.2.2 [(e.2.1,1,0,0,[],[])]).bind λj=>(J0B e.1 (some (J0 e.2.2.2)) none).bind λh=>(Jz 80 j h).bind λk=>some (k,0))
def J6h(x1:J2g):Option (J2g):=(J0W x1.1).bind λg=>if Jo g then some ([],15)else if ltI x1.2 1=false then if gtI x1.2 1073741824 then some ([],1)else(J1l x1).bind λe=>if geI e 0 then some ([],25)else if eqI (J0 x1.1) 64 then some ([],21)else Jf (JeK) (x1.1,x1.2,0,[])else some ([],1)
def Jft(z2:Int×Int×J9×T_api_Row):Option ((Int×Int×J9×T_api_Row)⊕(T_api_Row×Bool)):=if ltI z2.2.1 (J0 z2.2.2.1.2.2.2.2.2.2.2)then(idx z2.2.2.1.2.2.2.2.2.2.2 z2.2.1).bind λe=>if eqI e.1 z2.1 then(idx z2.2.2.1.2.2.2.2.2.2.2 z2.2.1).bind λg=>some (.inr (g,true))else some (.inl (z2.1,J1 .i64 z2.2.1 1,z2.2.2))else some (.inr ((0,0,0),false))
def J42(x1:J1F):Option (T_api_Row×Bool):=Jf (Jft) (x1.2,0,x1.1,0,0,0)
def J1Z(x1:JuK):Option (Bool):=if neI x1.1.1 x1.2.1 then if eqT J07 x1.1.2.1 x1.2.2.1 then if eqI x1.1.2.2 2=false then some (eqI x1.2.2.2 2)else some true else some false else some false
def J50(x1:T_api_Grant):Option (Bool):=if geI x1.1 1 then if leI x1.1 1073741824 then if geI x1.2.1.1 0 then if ltI x1.2.1.1 64 then if geI x1.2.1.2 0 then if ltI x1.2.1.2 16 then if eqI x1.2.2 1=false then some (eqI x1.2.2 2)else some true else some false else some false else some false else some false else some false else some false
def J7h(x1:JuK):Option (Bool):=if neI x1.1.2.1.1 x1.2.2.1.1 then some (ltI x1.1.2.1.1 x1.2.2.1.1)else if neI x1.1.2.1.2 x1.2.2.1.2 then some (ltI x1.1.2.1.2 x1.2.2.1.2)else some (ltI x1.1.1 x1.2.1)
def JiA(z2:Int×Int×JZ×JG):Option ((Int×Int×JZ×JG)⊕Int):=if ltI z2.2.1 (J0 z2.2.2.1.1)then(idx z2.2.2.1.1 z2.2.1).bind λe=>if eqI e.1 z2.1 then(idx z2.2.2.1.1 z2.2.1).bind λg=>if eqT J07 g.2.1 z2.2.2.2 then(idx z2.2.2.1.1 z2.2.1).bind λh=>some (.inr h.2.2)else some (.inl (z2.1,J1 .i64 z2.2.1 1,z2.2.2))else some (.inl (z2.1,J1 .i64 z2.2.1 1,z2.2.2))else some (.inr 0)
def J2K(x1:JyZ):Option (Int):=Jf (JiA) (x1.2.1,0,x1.1,x1.2.2)
def Jfp(e:Jbh):Option ((Jbh)⊕((Jfu)⊕Bool)):=if geI e.2.1 0 then(idx e.2.2.1 e.2.1).bind λn=>(idx e.2.2.1 e.1).bind λg=>if eqT J07 n.2.1 g.2.1 then(idx e.2.2.1 e.2.1).bind λj=>(idx e.2.2.1 e.1).bind λh=>(J1Z (j,h)).bind λk=>if k then Option.map .inr (some (.inr false))else some (.inl (e.1,JF .i64 e.2.1 1,e.2.2))else some (.inr (.inl (J1 .i64 e.1 1,e.2.2)))else some (.inr (.inl (J1 .i64 e.1 1,e.2.2)))
def Jge(e:Jbh):Option ((Jbh)⊕((Jfu)⊕Bool)):=if geI e.2.1 0 then(idx e.2.2.1 e.2.1).bind λh=>(idx e.2.2.1 e.1).bind λk=>if eqT J07 h.2.1 k.2.1 then(idx e.2.2.1 e.2.1).bind λj=>(idx e.2.2.1 e.1).bind λn=>(J1Z (j,n)).bind λg=>if g then Option.map .inr (some (.inr false))else some (.inl (e.1,JF .i64 e.2.1 1,e.2.2))else some (.inr (.inl (J1 .i64 e.1 1,e.2.2)))else some (.inr (.inl (J1 .i64 e.1 1,e.2.2)))
def JfB(e:JGl):Option ((JGl)⊕((Jfu)⊕Bool)):=if ltI e.2.1 e.1 then(idx e.2.2.1.2 e.2.1).bind λg=>if eqI g.1 e.2.2.2.1 then Option.map .inr (some (.inr false))else some (.inl (e.1,J1 .i64 e.2.1 1,e.2.2))else some (.inr (.inl (J1 .i64 e.1 1,e.2.2.1)))
def JfL(e:Jfu):Option ((Jfu)⊕Bool):=if ltI e.1 (J0 e.2.2)then(idx e.2.2 e.1).bind λg=>(J50 g).bind λj=>if Jo j=false then(J2K (e.2,g.1,g.2.1)).bind λh=>if geI h g.2.2 then some (.inr false)else Jf (JfB) (e.1,0,e.2,g)else some (.inr false)else some (.inr true)
def JfQ(z2:Jfu):Option ((Jfu)⊕Bool):=if ltI z2.1 (J0 z2.2.1)then(idx z2.2.1 z2.1).bind λh=>(J50 h).bind λj=>if Jo j=false then if gtI z2.1 0 then(idx z2.2.1 (JF .i64 z2.1 1)).bind λk=>(idx z2.2.1 z2.1).bind λg=>(J7h (k,g)).bind λe=>if Jo e then some (.inr false)else Jf (Jfp) (z2.1,JF .i64 z2.1 1,z2.2)else Jf (Jge) (z2.1,JF .i64 z2.1 1,z2.2)else some (.inr false)else Option.map .inr (Jf (JfL) (0,z2.2))
def J1i(x1:JZ):Option (Bool):=if gtI (J1 .i64 (J0 x1.1) (J0 x1.2)) 1024 then some false else Jf (JfQ) (0,x1)
def J9Q(z2:Jz6):Option ((Jz6)⊕Bool):=if ltI z2.1 16 then(inb 16 z2.1).bind λ_=>(vat z2.2.2.2 (Int.toNat z2.1)).bind λg=>(J0T g).bind λh=>if Jo h=false then if eqI z2.2.2.1 0 then(inb 16 z2.1).bind λ_=>(vat z2.2.2.2 (Int.toNat z2.1)).bind λe=>if e.1 then some (.inr false)else some (.inl (J1 .i64 z2.1 1,z2.2))else some (.inl (J1 .i64 z2.1 1,z2.2))else some (.inr false)else some (.inr true)
def J1H(x1:JU):Option (Bool):=Jf (J9Q) (0,x1)
def J1z(x1:JU):Option (Bool):=if geI x1.1 0 then if ltI x1.1 64 then if geI x1.2.1 0 then some (leI x1.2.1 1099511627776)else some false else some false else some false
def J1q(x1:JU):Option (Bool):=(J1z x1).bind λg=>if g then(J1H x1).bind λe=>some e else some false
def J05(e:JnE):Option ((JnE)⊕((TQ106)⊕Bool)):=if ltI e.2.2.1 e.2.1 then(idx e.2.2.2.1.2.1 e.2.2.1).bind λg=>if eqI g.1.1 e.2.2.2.2.1.1 then Option.map .inr (some (.inr false))else some (.inl (e.1,e.2.1,J1 .i64 e.2.2.1 1,e.2.2.2))else some (.inr (.inl (e.1,J1 .i64 e.2.1 1,e.2.2.2.1)))
def Jfw(e:JnE):Option ((JnE)⊕((TQ106)⊕Bool)):=if ltI e.2.2.1 e.2.1 then(idx e.2.2.2.1.2.1 e.2.2.1).bind λg=>if eqI g.1.1 e.2.2.2.2.1.1 then Option.map .inr (some (.inr false))else some (.inl (e.1,e.2.1,J1 .i64 e.2.2.1 1,e.2.2.2))else some (.inr (.inl (e.1,J1 .i64 e.2.1 1,e.2.2.2.1)))
def Jfb(e:JnE):Option ((JnE)⊕((TQ106)⊕Bool)):=if ltI e.2.2.1 e.2.1 then(idx e.2.2.2.1.2.1 e.2.2.1).bind λg=>if eqI g.1.1 e.2.2.2.2.1.1 then Option.map .inr (some (.inr false))else some (.inl (e.1,e.2.1,J1 .i64 e.2.2.1 1,e.2.2.2))else some (.inr (.inl (e.1,J1 .i64 e.2.1 1,e.2.2.2.1)))
def JeJ(e:JnE):Option ((JnE)⊕((TQ106)⊕Bool)):=if ltI e.2.2.1 e.2.1 then(idx e.2.2.2.1.2.1 e.2.2.1).bind λg=>if eqI g.1.1 e.2.2.2.2.1.1 then Option.map .inr (some (.inr false))else some (.inl (e.1,e.2.1,J1 .i64 e.2.2.1 1,e.2.2.2))else some (.inr (.inl (e.1,J1 .i64 e.2.1 1,e.2.2.2.1)))
def J58(z2:TQ106):Option ((TQ106)⊕Bool):=if ltI z2.2.1 z2.1 then(idx z2.2.2.2.1 z2.2.1).bind λe=>(J1q e.1).bind λg=>if Jo g=false then if e.2.1 then if ltI e.2.2.1 1=false then if gtI e.2.2.1 e.1.2.1=false then if Jo e.2.1 then if neI e.2.2.1 0 then some (.inr false)else Jf (J05) (z2.1,z2.2.1,0,z2.2.2,e)else Jf (Jfw) (z2.1,z2.2.1,0,z2.2.2,e)else some (.inr false)else some (.inr false)else if Jo e.2.1 then if neI e.2.2.1 0 then some (.inr false)else Jf (Jfb) (z2.1,z2.2.1,0,z2.2.2,e)else Jf (JeJ) (z2.1,z2.2.1,0,z2.2.2,e)else some (.inr false)else some (.inr true)
def J0g(x1:JY):Option (Bool):=if ltI x1.1 1=false then if gtI x1.1 64=false then if gtI (J0 x1.2.1) x1.1=false then if ltI x1.2.2 0=false then if gtI x1.2.2 (J31 0 (JF .i64 (J0 x1.2.1) 1))then some false else Jf (J58) (J0 x1.2.1,0,x1)else some false else some false else some false else some false
def J6w(x1:Int):Option (Bool):=if geI x1 0 then some (leI x1 1099511627776)else some false
def Jer(z2:Jey):Option ((Jey)⊕Bool):=if ltI z2.1 (J0 z2.2)then(idx z2.2 z2.1).bind λe=>(J6w e.1).bind λh=>if Jo h=false then(J6w e.2.1).bind λj=>if Jo j=false then(J6w e.2.2).bind λg=>if Jo g=false then if eqI e.2.1 0 then if neI e.2.2 0 then some (.inr false)else some (.inl (J1 .i64 z2.1 1,z2.2))else some (.inl (J1 .i64 z2.1 1,z2.2))else some (.inr false)else some (.inr false)else some (.inr false)else some (.inr true)
def J1u(x1:List T_api_Row):Option (Bool):=if ltI (J0 x1) 1=false then if gtI (J0 x1) 64 then some false else Jf (Jer) (0,x1)else some false
def J69(z2:(List T_api_Row)×JG):Option (((List T_api_Row)×JG)⊕Bool):=if ltI z2.2.2 (J0 z2.1)then(idx z2.1 z2.2.2).bind λe=>if ltI e.1 0=false then if geI e.1 z2.2.1=false then if ltI e.2.1 1=false then if gtI e.2.1 e.2.2=false then if gtI e.2.2 1099511627776=false then if gtI z2.2.2 0 then(idx z2.1 (JF .i64 z2.2.2 1)).bind λg=>if geI g.1 e.1 then some (.inr false)else some (.inl (z2.1,z2.2.1,J1 .i64 z2.2.2 1))else some (.inl (z2.1,z2.2.1,J1 .i64 z2.2.2 1))else some (.inr false)else some (.inr false)else some (.inr false)else some (.inr false)else some (.inr false)else some (.inr true)
def J1B(x1:JoL):Option (Bool):=Jf (J69) (x1.1,x1.2,0)
def J4a(x1:J9):Option (Bool):=if geI x1.1 1 then if leI x1.1 64 then if geI x1.2.1 1 then if leI x1.2.1 1073741825 then(J0f x1.2.2.1).bind λj=>if j then(J0g x1.2.2.2.1).bind λh=>if h then(J1i x1.2.2.2.2.1).bind λk=>if k then(J0W x1.2.2.2.2.2.1).bind λn=>if n then(J1u x1.2.2.2.2.2.2.1).bind λg=>if g then if eqI (J0 x1.2.2.2.2.2.2.1) x1.1 then(J1B (x1.2.2.2.2.2.2.2,x1.1)).bind λe=>some e else some false else some false else some false else some false else some false else some false else some false else some false else some false else some false
def Jex(e:Jbc):Option ((Jbc)⊕Bool):=if ltI e.1 (J0 e.2.2.2.2.2.1.2)then(idx e.2.2.2.2.2.1.2 e.1).bind λg=>if geI g.2.1.1 e.2.1 then some (.inr false)else some (.inl (J1 .i64 e.1 1,e.2))else some (.inr true)
def Jfa(e:Jbc):Option ((Jbc)⊕Bool):=if ltI e.1 (J0 e.2.2.2.2.2.1.1)then(idx e.2.2.2.2.2.1.1 e.1).bind λg=>if geI g.2.1.1 e.2.1 then some (.inr false)else some (.inl (J1 .i64 e.1 1,e.2))else Option.map .inr (Jf (Jex) (0,e.2))
def JfR(e:Jbc):Option ((Jbc)⊕Bool):=if ltI e.1 (J0 e.2.2.2.2.1.2.1)then(idx e.2.2.2.2.1.2.1 e.1).bind λg=>if geI g.1.1 e.2.1 then some (.inr false)else(J42 (e.2,g.1.1)).bind λh=>if h.2 then some (.inr false)else some (.inl (J1 .i64 e.1 1,e.2))else Option.map .inr (Jf (Jfa) (0,e.2))
def Jfq(z3:Jbc):Option ((Jbc)⊕Bool):=if ltI z3.1 (J0 z3.2.2.2.2.2.2.1)then(idx z3.2.2.2.2.2.2.1 z3.1).bind λe=>if geI e.1 z3.2.2.1 then some (.inr false)else some (.inl (J1 .i64 z3.1 1,z3.2))else Option.map .inr (Jf (JfR) (0,z3.2))
def JJ(x1:J9):Option (Bool):=(J4a x1).bind λe=>if Jo e then some false else Jf (Jfq) (0,x1)
def J8P(x1:J9):Option (Jdc):=(JJ x1).bind λg=>if Jo g then some ((0,0,(0,[],0),(0,[],0),([],[]),[],[],[]),0,15)else if gtI x1.2.1 1073741824 then some ((0,0,(0,[],0),(0,[],0),([],[]),[],[],[]),0,21)else(J6h (x1.2.2.2.2.2.1,x1.2.1)).bind λe=>if neI e.2 0 then some ((0,0,(0,[],0),(0,[],0),([],[]),[],[],[]),0,e.2)else some ((x1.1,J1 .i64 x1.2.1 1,x1.2.2.1,x1.2.2.2.1,x1.2.2.2.2.1,e.1,x1.2.2.2.2.2.2),JF .i64 (J1 .i64 x1.2.1 1) 1,0)
def J8v(x1:Ju):Option (Jq6):=(J8P x1.1).bind λe=>if neI e.2.2 0 then some (((0,0,(0,[],0),(0,[],0),([],[]),[],[],[]),[],0,[],false,[]),0,e.2.2)else some ((e.1,x1.2),e.2.1,0)
def JM(x1:T_api_Entry):Option (Bool):=if eqI x1.2.1 1=false then some (eqI x1.2.1 2)else some true
def J1e(x1:J04×T_api_Entry):Option (Jss):=(J0f x1.1).bind λk=>if Jo k then some ((0,[],0),0,26)else if eqI (J0 x1.1.2.1) 4096=false then(J29 x1.1).bind λj=>if eqI j 1099511627776 then some ((0,[],0),0,21)else(J29 x1.1).bind λe=>(J09 (J1 .i64 e 1,x1.2.2)).bind λn=>if Jo n then some ((0,[],0),0,12)else(J1T 128 x1.1.2.1).bind λh=>(Jz 128 h [(J1 .i64 e 1,x1.2.2)]).bind λg=>some ((x1.1.1,g,x1.1.2.2),J1 .i64 e 1,0)else some ((0,[],0),0,21)
def J0I(x1:J6M):Option (JjJ):=(J0f x1.1).bind λg=>if Jo g then some ((0,0,0,0,0,0,(0,0,(false,[]),false,[]),[]),26)else if ltI x1.2 x1.1.1=false then(J29 x1.1).bind λe=>if gtI x1.2 e then some ((0,0,0,0,0,0,(0,0,(false,[]),false,[]),[]),14)else(idx x1.1.2.1 (JF .i64 x1.2 x1.1.1)).bind λh=>some (h,0)else some ((0,0,0,0,0,0,(0,0,(false,[]),false,[]),[]),14)
def Jb5(x1:(List T_api_Row)×Int×T_api_Row):Option (List T_api_Row):=(J1T 24 x1.1).bind λe=>(inb (List.length e) x1.2.1).bind λ_=>(lat e (Int.toNat x1.2.1)).bind λ_=>some (J0t e (Int.toNat x1.2.1) x1.2.2)
def J2I(x1:JHA):Option (JoL):=(J1u x1.1).bind λh=>if Jo h then some ([],28)else(J09 x1.2).bind λg=>if Jo g then some ([],12)else if neI x1.2.2.1 7 then some (x1.1,0)else if geI x1.2.2.2.2.2.2.2.1.1 (J0 x1.1)then some ([],1)else(idx x1.1 x1.2.2.2.2.2.2.2.1.1).bind λe=>(Jb5 (x1.1,x1.2.2.2.2.2.2.2.1.1,J31 e.1 x1.2.2.2.2.2.2.1,e.2)).bind λj=>some (j,0)
def J0L(x1:J2g):Option (Int):=(J1l x1).bind λe=>some e
def JdO(z2:JHC):Option ((JHC)⊕(List Js)):=if ltI z2.2.2.1 (J0 z2.1)then(idx z2.1 z2.2.2.1).bind λe=>if neI e.1 z2.2.1 then(idx z2.1 z2.2.2.1).bind λg=>(Jz 80 z2.2.2.2 [g]).bind λh=>some (.inl (z2.1,z2.2.1,J1 .i64 z2.2.2.1 1,h))else some (.inl (z2.1,z2.2.1,J1 .i64 z2.2.2.1 1,z2.2.2.2))else some (.inr z2.2.2.2)
def J4t(x1:J2g):Option (List Js):=Jf (JdO) (x1.1,x1.2,0,[])
def J2G(x1:(List Js)×Int×Js):Option (List Js):=(J1T 80 x1.1).bind λe=>(inb (List.length e) x1.2.1).bind λ_=>(lat e (Int.toNat x1.2.1)).bind λ_=>some (J0t e (Int.toNat x1.2.1) x1.2.2)
def J2a(x1:Js):Option (Js):=if eqI x1.2.1 2 then if eqI (J0 x1.2.2.2.2.1) 0=false then(idx x1.2.2.2.2.1 (JF .i64 (J0 x1.2.2.2.2.1) 1)).bind λe=>if leI e x1.2.2.2.1 then some (x1.1,1,x1.2.2.1,0,x1.2.2.2.2)else some x1 else some (x1.1,1,x1.2.2.1,0,x1.2.2.2.2)else some x1
def Jip(e:JMe):Option ((JMe)⊕(J2g)):=if ltI e.2.2.1 (J0 e.2.2.2.2.1.2.2.2.2.1)then(idx e.2.2.2.2.1.2.2.2.2.1 e.2.2.1).bind λk=>if neI k e.2.2.2.1.2.2.2.2.2.1 then(idx e.2.2.2.2.1.2.2.2.2.1 e.2.2.1).bind λj=>(Jz 8 e.2.2.2.2.2 [j]).bind λn=>some (.inl (e.1,e.2.1,J1 .i64 e.2.2.1 1,e.2.2.2.1,e.2.2.2.2.1,n))else some (.inl (e.1,e.2.1,J1 .i64 e.2.2.1 1,e.2.2.2))else Option.map .inr (if eqI (J0 e.2.2.2.2.2) (J0 e.2.2.2.2.1.2.2.2.2.1)then some ([],13)else(J2a (e.2.2.2.2.1.1,e.2.2.2.2.1.2.1,e.2.2.2.2.1.2.2.1,e.2.2.2.2.1.2.2.2.1,e.2.2.2.2.2,e.2.2.2.2.1.2.2.2.2.2)).bind λh=>(J2G (e.1,e.2.1,h)).bind λg=>some (g,0))
def J0A(x1:(List Js)×T_api_Entry):Option (J2g):=(J0W x1.1).bind λr=>if Jo r then some ([],15)else(J09 x1.2).bind λq=>if Jo q then some ([],12)else if eqI x1.2.2.2.1 0 then some (x1.1,0)else(J1l (x1.1,x1.2.2.2.1)).bind λg=>if ltI g 0 then some ([],16)else(idx x1.1 g).bind λe=>if neI x1.2.2.2.2.1 e.2.2.1 then some ([],13)else if eqI x1.2.2.1 1 then(J1T 8 e.2.2.2.2.1).bind λo=>(Jz 8 o [x1.2.1]).bind λn=>(J2a (e.1,e.2.1,x1.2.1,e.2.2.2.1,n,e.2.2.2.2.2)).bind λw=>(J2G (x1.1,g,w)).bind λv=>some (v,0)else if eqI x1.2.2.1 2 then Jf (Jip) (x1.1,g,0,x1.2,(e.1,e.2.1,x1.2.1,e.2.2.2),[])else if eqI x1.2.2.1 4 then(J2a (e.1,3,x1.2.1,0,e.2.2.2.2.1,[])).bind λh=>(J2G (x1.1,g,h)).bind λj=>some (j,0)else(J4t (x1.1,x1.2.2.2.1)).bind λk=>some (k,0)
def J7r(z2:TQ106):Option ((TQ106)⊕Int):=if ltI z2.2.1 (J0 z2.2.2.2.1)then(idx z2.2.2.2.1 z2.2.1).bind λe=>if eqI e.1.1 z2.1 then some (.inr z2.2.1)else some (.inl (z2.1,J1 .i64 z2.2.1 1,z2.2.2))else some (.inr (-1))
def J1A(x1:J6K):Option (Int):=Jf (J7r) (x1.2,0,x1.1)
def J1k(x1:J6K):Option (Int):=(J0g x1.1).bind λg=>if Jo g then some (-1)else(J1A x1).bind λe=>some e
def J2J(x1:J6K):Option (JU×Bool):=(J1k x1).bind λe=>if ltI e 0 then some ((0,0,Vector.replicate 16 (false,[])),false)else(idx x1.1.2.1 e).bind λg=>some (g.1,true)
def J3J(x1:J1F):Option (Int):=(JJ x1.1).bind λh=>if Jo h=false then if ltI x1.2 0=false then if geI x1.2 x1.1.1 then some 0 else(J2J (x1.1.2.2.2.1,x1.2)).bind λe=>if e.2 then some e.1.2.1 else(J42 x1).bind λg=>if g.2 then some g.1.2.2 else(idx x1.1.2.2.2.2.2.2.1 x1.2).bind λj=>some j.1 else some 0 else some 0
def J1b(x1:JtI):Option (Jdc):=(JJ x1.1).bind λI=>if Jo I then some ((0,0,(0,[],0),(0,[],0),([],[]),[],[],[]),0,15)else if gtI x1.2.2.2.1 0 then(J0L (x1.1.2.2.2.2.2.1,x1.2.2.2.1)).bind λC=>if ltI C 0 then some ((0,0,(0,[],0),(0,[],0),([],[]),[],[],[]),0,16)else(idx x1.1.2.2.2.2.2.1 C).bind λB=>(JM (x1.2.1,x1.2.2.1,x1.2.2.2.1,B.2.2.1,0,x1.2.2.2.2.2.2)).bind λG=>if G then(J3J (x1.1,x1.2.2.2.2.2.2.2.1.1)).bind λH=>(J1e (x1.1.2.2.1,x1.2.1,x1.2.2.1,x1.2.2.2.1,B.2.2.1,H,x1.2.2.2.2.2.2)).bind λj=>if neI j.2.2 0 then some ((0,0,(0,[],0),(0,[],0),([],[]),[],[],[]),0,j.2.2)else(J0I (j.1,j.2.1)).bind λE=>(J0A (x1.1.2.2.2.2.2.1,E.1)).bind λA=>if neI A.2 0 then some ((0,0,(0,[],0),(0,[],0),([],[]),[],[],[]),0,A.2)else(J2I (x1.1.2.2.2.2.2.2.1,E.1)).bind λk=>if neI k.2 0 then some ((0,0,(0,[],0),(0,[],0),([],[]),[],[],[]),0,k.2)else some ((x1.1.1,x1.1.2.1,j.1,x1.1.2.2.2.1,x1.1.2.2.2.2.1,A.1,k.1,x1.1.2.2.2.2.2.2.2),j.2.1,0)else(J1e (x1.1.2.2.1,x1.2.1,x1.2.2.1,x1.2.2.2.1,B.2.2.1,0,x1.2.2.2.2.2.2)).bind λh=>if neI h.2.2 0 then some ((0,0,(0,[],0),(0,[],0),([],[]),[],[],[]),0,h.2.2)else(J0I (h.1,h.2.1)).bind λy=>(J0A (x1.1.2.2.2.2.2.1,y.1)).bind λn=>if neI n.2 0 then some ((0,0,(0,[],0),(0,[],0),([],[]),[],[],[]),0,n.2)else(J2I (x1.1.2.2.2.2.2.2.1,y.1)).bind λw=>if neI w.2 0 then some ((0,0,(0,[],0),(0,[],0),([],[]),[],[],[]),0,w.2)else some ((x1.1.1,x1.1.2.1,h.1,x1.1.2.2.2.1,x1.1.2.2.2.2.1,n.1,w.1,x1.1.2.2.2.2.2.2.2),h.2.1,0)else(JM (x1.2.1,x1.2.2.1,x1.2.2.2.1,0,0,x1.2.2.2.2.2.2)).bind λD=>if D then(J3J (x1.1,x1.2.2.2.2.2.2.2.1.1)).bind λF=>(J1e (x1.1.2.2.1,x1.2.1,x1.2.2.1,x1.2.2.2.1,0,F,x1.2.2.2.2.2.2)).bind λg=>if neI g.2.2 0 then some ((0,0,(0,[],0),(0,[],0),([],[]),[],[],[]),0,g.2.2)else(J0I (g.1,g.2.1)).bind λx=>(J0A (x1.1.2.2.2.2.2.1,x.1)).bind λv=>if neI v.2 0 then some ((0,0,(0,[],0),(0,[],0),([],[]),[],[],[]),0,v.2)else(J2I (x1.1.2.2.2.2.2.2.1,x.1)).bind λr=>if neI r.2 0 then some ((0,0,(0,[],0),(0,[],0),([],[]),[],[],[]),0,r.2)else some ((x1.1.1,x1.1.2.1,g.1,x1.1.2.2.2.1,x1.1.2.2.2.2.1,v.1,r.1,x1.1.2.2.2.2.2.2.2),g.2.1,0)else(J1e (x1.1.2.2.1,x1.2.1,x1.2.2.1,x1.2.2.2.1,0,0,x1.2.2.2.2.2.2)).bind λe=>if neI e.2.2 0 then some ((0,0,(0,[],0),(0,[],0),([],[]),[],[],[]),0,e.2.2)else(J0I (e.1,e.2.1)).bind λz=>(J0A (x1.1.2.2.2.2.2.1,z.1)).bind λq=>if neI q.2 0 then some ((0,0,(0,[],0),(0,[],0),([],[]),[],[],[]),0,q.2)else(J2I (x1.1.2.2.2.2.2.2.1,z.1)).bind λo=>if neI o.2 0 then some ((0,0,(0,[],0),(0,[],0),([],[]),[],[],[]),0,o.2)else some ((x1.1.1,x1.1.2.1,e.1,x1.1.2.2.2.1,x1.1.2.2.2.2.1,q.1,o.1,x1.1.2.2.2.2.2.2.2),e.2.1,0)
def JjV(z2:(List UInt8)×T_api_Row):Option (((List UInt8)×T_api_Row)⊕(List UInt8)):=if ltI z2.2.2.2 z2.2.2.1 then(JmD .u64 (cvI .u64 z2.2.1) (cvI .u64 (J32 .i64 8 z2.2.2.2))).bind λe=>(J62 z2.1 (toStr [cvI .u8 e])).bind λg=>some (.inl (g,z2.2.1,z2.2.2.1,J1 .i64 z2.2.2.2 1))else some (.inr z2.1)
def JO(x1:J0x):Option (List UInt8):=if ltI x1.2.2 1=false then if gtI x1.2.2 8 then some x1.1 else Jf (JjV) (x1.1,x1.2.1,x1.2.2,0)else some x1.1
def Jd8(e:(List UInt8)×Int×(List T_api_Row)):Option (((List UInt8)×Int×(List T_api_Row))⊕(J3G)):=if ltI e.2.1 (J0 e.2.2)then(idx e.2.2 e.2.1).bind λo=>(JO (e.1,o.1,8)).bind λj=>(idx e.2.2 e.2.1).bind λh=>(JO (j,h.2.1,8)).bind λn=>(idx e.2.2 e.2.1).bind λk=>(JO (n,k.2.2,8)).bind λg=>some (.inl (g,J1 .i64 e.2.1 1,e.2.2))else some (.inr (e.1,0))
def J7O(x1:List T_api_Row):Option (J3G):=(J1u x1).bind λg=>if Jo g then some ([],28)else(JO ([],J0 x1,2)).bind λe=>Jf (Jd8) (e,0,x1)
def Jc1(z2:(List UInt8)×(List Int)×Int):Option (((List UInt8)×(List Int)×Int)⊕(List UInt8)):=if ltI z2.2.2 (J0 z2.2.1)then(idx z2.2.1 z2.2.2).bind λe=>(JO (z2.1,e,8)).bind λg=>some (.inl (g,z2.2.1,J1 .i64 z2.2.2 1))else some (.inr z2.1)
def J5h(x1:(List UInt8)×(List Int)):Option (List UInt8):=Jf (Jc1) (x1.1,x1.2,0)
def JdK(e:(List Js)×(List UInt8)×Int):Option (((List Js)×(List UInt8)×Int)⊕(J3G)):=if ltI e.2.2 (J0 e.1)then(idx e.1 e.2.2).bind λg=>(JO (e.2.1,g.1,4)).bind λq=>(JO (q,g.2.1,1)).bind λo=>(JO (o,g.2.2.1,8)).bind λv=>(JO (v,g.2.2.2.1,8)).bind λr=>(JO (r,J0 g.2.2.2.2.1,2)).bind λh=>(J5h (h,g.2.2.2.2.1)).bind λk=>(JO (k,J0 g.2.2.2.2.2,1)).bind λj=>(J5h (j,g.2.2.2.2.2)).bind λn=>some (.inl (e.1,n,J1 .i64 e.2.2 1))else some (.inr (e.2.1,0))
def J7u(x1:List Js):Option (J3G):=(J0W x1).bind λg=>if Jo g then some ([],15)else(JO ([],J0 x1,2)).bind λe=>Jf (JdK) (x1,e,0)
def Jfd(e:Int×J10):Option ((Int×J10)⊕Bool):=if ltI e.1 (J0 e.2.2.2.1)then(idx e.2.2.2.1 e.1).bind λg=>if geI g.1 e.2.2.1 then some (.inr false)else some (.inl (J1 .i64 e.1 1,e.2))else some (.inr true)
def J6j(x1:J10):Option (Bool):=if ltI x1.1 1=false then if gtI x1.1 64=false then if ltI x1.2.1 1=false then if gtI x1.2.1 1073741825=false then(J0W x1.2.2.1).bind λg=>if Jo g=false then(J1B (x1.2.2.2.1,x1.1)).bind λe=>if Jo e=false then(J1u x1.2.2.2.2).bind λh=>if Jo h=false then if neI (J0 x1.2.2.2.2) x1.1 then some false else Jf (Jfd) (0,x1)else some false else some false else some false else some false else some false else some false else some false
def Jdr(e:(List UInt8)×Int×J10):Option (((List UInt8)×Int×J10)⊕(J3G)):=if ltI e.2.1 (J0 e.2.2.2.2.2.1)then(idx e.2.2.2.2.2.1 e.2.1).bind λh=>(JO (e.1,h.1,1)).bind λq=>(idx e.2.2.2.2.2.1 e.2.1).bind λo=>(JO (q,o.2.1,8)).bind λr=>(idx e.2.2.2.2.2.1 e.2.1).bind λj=>(JO (r,j.2.2,8)).bind λg=>some (.inl (g,J1 .i64 e.2.1 1,e.2.2))else Option.map .inr ((J7O e.2.2.2.2.2.2).bind λk=>(J62 e.1 k.1).bind λn=>some (n,0))
def J7n(x1:J10):Option (J3G):=(J6j x1).bind λj=>if Jo j then some ([],24)else(J7u x1.2.2.1).bind λe=>(JO ([],x1.1,2)).bind λn=>(JO (n,x1.2.1,4)).bind λo=>(JO (o,J0 e.1,4)).bind λh=>(J62 h e.1).bind λg=>(JO (g,J0 x1.2.2.2.1,1)).bind λk=>Jf (Jdr) (k,0,x1)
def Jf7(z3:Int×JY×(List T_api_Row)):Option ((Int×JY×(List T_api_Row))⊕(List T_api_Row)):=if ltI z3.1 64 then(J1A (z3.2.1,z3.1)).bind λe=>if geI e 0 then(idx z3.2.1.2.1 e).bind λj=>if j.2.1 then(idx z3.2.1.2.1 e).bind λh=>(idx z3.2.1.2.1 e).bind λg=>(Jz 24 z3.2.2 [(z3.1,h.2.2.1,g.1.2.1)]).bind λk=>some (.inl (J1 .i64 z3.1 1,z3.2.1,k))else some (.inl (J1 .i64 z3.1 1,z3.2))else some (.inl (J1 .i64 z3.1 1,z3.2))else some (.inr z3.2.2)
def J6m(x1:JY):Option (List T_api_Row):=(J0g x1).bind λe=>if Jo e then some []else Jf (Jf7) (0,x1,[])
def Jnz(e:TQ8):Option ((TQ8)⊕((JHh)⊕(JoP))):=if ltI e.2.2.2.1 e.2.2.1 then(idx e.2.1 e.2.2.2.1).bind λg=>if eqI g.1 e.1 then(Jz 24 e.2.2.2.2.2.2.2.2.2.2.1 [g]).bind λh=>some (.inl (e.1,e.2.1,e.2.2.1,J1 .i64 e.2.2.2.1 1,e.2.2.2.2.1,e.2.2.2.2.2.1,e.2.2.2.2.2.2.1,e.2.2.2.2.2.2.2.1,e.2.2.2.2.2.2.2.2.1,e.2.2.2.2.2.2.2.2.2.1,h,e.2.2.2.2.2.2.2.2.2.2.2))else some (.inl (e.1,e.2.1,e.2.2.1,J1 .i64 e.2.2.2.1 1,e.2.2.2.2))else some (.inr (.inl (J1 .i64 e.1 1,e.2.2.2.2)))
def Jn0(e:TQ8):Option ((TQ8)⊕((JHh)⊕(JoP))):=if ltI e.2.2.2.1 e.2.2.1 then(idx e.2.1 e.2.2.2.1).bind λg=>if eqI g.1 e.1 then(Jz 24 e.2.2.2.2.2.2.2.2.2.2.1 [g]).bind λh=>some (.inl (e.1,e.2.1,e.2.2.1,J1 .i64 e.2.2.2.1 1,e.2.2.2.2.1,e.2.2.2.2.2.1,e.2.2.2.2.2.2.1,e.2.2.2.2.2.2.2.1,e.2.2.2.2.2.2.2.2.1,e.2.2.2.2.2.2.2.2.2.1,h,e.2.2.2.2.2.2.2.2.2.2.2))else some (.inl (e.1,e.2.1,e.2.2.1,J1 .i64 e.2.2.2.1 1,e.2.2.2.2))else some (.inr (.inl (J1 .i64 e.1 1,e.2.2.2.2)))
def JmG(z3:JHh):Option ((JHh)⊕(JoP)):=if ltI z3.1 z3.2.1.1 then(J42 (z3.2.1,z3.1)).bind λh=>if h.2 then(Jz 24 z3.2.2.2.2.2.2.2.1 [h.1]).bind λj=>(J6m z3.2.1.2.2.2.1).bind λg=>Jf (Jnz) (z3.1,g,J0 g,0,z3.2.1,z3.2.2.1,z3.2.2.2.1,z3.2.2.2.2.1,z3.2.2.2.2.2.1,z3.2.2.2.2.2.2.1,j,z3.2.2.2.2.2.2.2.2)else(J6m z3.2.1.2.2.2.1).bind λe=>Jf (Jn0) (z3.1,e,J0 e,0,z3.2)else some (.inr ((z3.2.2.2.2.2.2.2.2.2.1,z3.2.2.2.2.2.2.2.2.2.2.1,z3.2.2.2.2.2.2.2.2.2.2.2.1,z3.2.2.2.2.2.2.2.1,z3.2.2.2.2.2.2.2.2.2.2.2.2),0))
def JcA(x1:J9):Option (JoP):=(JJ x1).bind λe=>if Jo e then some ((0,0,[],[],[]),15)else Jf (JmG) (0,x1,[],0,0,[],[],[],[],x1.1,x1.2.1,x1.2.2.2.2.2.1,x1.2.2.2.2.2.2.1)
def Ja7(x1:J9):Option (Jdc):=(JcA x1).bind λg=>if neI g.2 0 then some ((0,0,(0,[],0),(0,[],0),([],[]),[],[],[]),0,g.2)else(J7n g.1).bind λh=>if gtI (J0 h.1) 8192 then some ((0,0,(0,[],0),(0,[],0),([],[]),[],[],[]),0,21)else(J1b (x1,0,6,0,0,0,0,(0,0,(false,[]),false,[]),h.1)).bind λe=>if neI e.2.2 0 then some ((0,0,(0,[],0),(0,[],0),([],[]),[],[],[]),0,e.2.2)else(J2q (e.1.2.2.1,e.2.1)).bind λj=>some ((e.1.1,e.1.2.1,j.1,e.1.2.2.2),e.2.1,0)
def J5e(x1:Ju):Option (Jq6):=(Ja7 x1.1).bind λe=>if neI e.2.2 0 then some (((0,0,(0,[],0),(0,[],0),([],[]),[],[],[]),[],0,[],false,[]),0,e.2.2)else some ((e.1,x1.2),e.2.1,0)
def J2o(x1:J1F):Option (J9):=(J3I x1.1.2.2.1).bind λg=>(J2q (x1.1.2.2.1,JaE x1.2 g)).bind λe=>if eqI e.2 0 then some (x1.1.1,x1.1.2.1,e.1,x1.1.2.2.2)else some x1.1
def J48(x1:J1F):Option (J9×JU×Int):=(JJ x1.1).bind λg=>if Jo g then some ((0,0,(0,[],0),(0,[],0),([],[]),[],[],[]),(0,0,Vector.replicate 16 (false,[])),15)else(J2J (x1.1.2.2.2.1,x1.2)).bind λe=>if Jo e.2 then some ((0,0,(0,[],0),(0,[],0),([],[]),[],[],[]),(0,0,Vector.replicate 16 (false,[])),18)else(J2o (x1.1,e.1.2.1)).bind λh=>some (h,e.1,0)
def JkT(e:(List UInt8)×Int×JG):Option (((List UInt8)×Int×JG)⊕((JJy)⊕Int)):=if ltI e.2.2.2 8 then if eqI (JMl .u32 e.2.1 1) 1 then(JmD .u32 e.2.1 1).bind λh=>some (.inl (e.1,Jgo .u32 h 2197175160,e.2.2.1,J1 .i64 e.2.2.2 1))else(JmD .u32 e.2.1 1).bind λg=>some (.inl (e.1,g,e.2.2.1,J1 .i64 e.2.2.2 1))else some (.inr (.inl (e.1,e.2.1,J1 .i64 e.2.2.1 1)))
def JlM(z2:JJy):Option ((JJy)⊕Int):=if ltI z2.2.2 (J0 z2.1)then(Jo5 z2.1 z2.2.2).bind λe=>Jf (JkT) (z2.1,Jgo .u32 z2.2.1 (cvI .u32 e),z2.2.2,0)else some (.inr (JIZ .u32 z2.2.1))
def J5y(x1:List UInt8):Option (Int):=Jf (JlM) (x1,4294967295,0)
def J24(x1:JU):Option (Int):=(J1z x1).bind λg=>if Jo g then some 1 else(J1H x1).bind λe=>if Jo e then some 22 else some 0
def J49(x1:Int):Option (List UInt8):=(mkS 1 x1 x1 0).bind λe=>some (toStr e)
def Je8(e:(List UInt8)×Int×JU):Option (((List UInt8)×Int×JU)⊕(J3G)):=if ltI e.2.1 16 then(inb 16 e.2.1).bind λ_=>(vat e.2.2.2.2 (Int.toNat e.2.1)).bind λE=>if E.1 then(inb 16 e.2.1).bind λ_=>(vat e.2.2.2.2 (Int.toNat e.2.1)).bind λF=>(JO (e.1,J0 F.2,1)).bind λj=>(inb 16 e.2.1).bind λ_=>(vat e.2.2.2.2 (Int.toNat e.2.1)).bind λz=>(inb 16 e.2.1).bind λ_=>(vat e.2.2.2.2 (Int.toNat e.2.1)).bind λx=>(J49 (JF .i64 12 (J0 x.2))).bind λn=>(J62 z.2 n).bind λy=>(J62 j y).bind λr=>some (.inl (r,J1 .i64 e.2.1 1,e.2.2))else(JO (e.1,255,1)).bind λv=>(inb 16 e.2.1).bind λ_=>(vat e.2.2.2.2 (Int.toNat e.2.1)).bind λw=>(inb 16 e.2.1).bind λ_=>(vat e.2.2.2.2 (Int.toNat e.2.1)).bind λB=>(J49 (JF .i64 12 (J0 B.2))).bind λq=>(J62 w.2 q).bind λk=>(J62 v k).bind λh=>some (.inl (h,J1 .i64 e.2.1 1,e.2.2))else Option.map .inr ((J49 (JF .i64 244 (J0 e.1))).bind λo=>(J62 e.1 o).bind λg=>(J5y g).bind λD=>(JO (g,cvI .i64 D,4)).bind λC=>(JO (C,e.2.2.2.1,8)).bind λA=>some (A,0))
def J4q(x1:JU):Option (J3G):=(J24 x1).bind λe=>if neI e 0 then some ([],e)else(JO ([],x1.2.1,8)).bind λg=>(JO (g,x1.1,4)).bind λh=>Jf (Je8) (h,0,x1)
def J6V(x1:J0i):Option (JMO):=(J1T 16 x1.1).bind λg=>(J1T 8 x1.2.2.1).bind λe=>(J1T 48 x1.2.2.2.2).bind λh=>some (x1.2.1,e,x1.2.2.2.1,g,h)
def Jc4(z2:(List Int)×Int×Int×(List Int)):Option (((List Int)×Int×Int×(List Int))⊕(List Int)):=if ltI z2.2.2.1 (J0 z2.1)then(idx z2.1 z2.2.2.1).bind λe=>if neI e z2.2.1 then(idx z2.1 z2.2.2.1).bind λg=>(Jz 8 z2.2.2.2 [g]).bind λh=>some (.inl (z2.1,z2.2.1,J1 .i64 z2.2.2.1 1,h))else some (.inl (z2.1,z2.2.1,J1 .i64 z2.2.2.1 1,z2.2.2.2))else some (.inr z2.2.2.2)
def J55(x1:J8T):Option (List Int):=Jf (Jc4) (x1.1,x1.2,0,[])
def J1s(x1:Int×(List Int)×Bool×Int×(List UInt8)×Int×(List (List UInt8))×(List JN)):Option (JMO):=(J0B x1.2.2.2.2.1 none (some x1.2.2.2.2.2.1)).bind λg=>(inb (List.length x1.2.2.2.2.2.2.1) x1.2.2.2.1).bind λ_=>(lat x1.2.2.2.2.2.2.1 (Int.toNat x1.2.2.2.1)).bind λj=>(J0B j (some x1.2.2.2.2.2.1) none).bind λk=>(J62 g k).bind λe=>(inb (List.length x1.2.2.2.2.2.2.1) x1.2.2.2.1).bind λ_=>(lat x1.2.2.2.2.2.2.1 (Int.toNat x1.2.2.2.1)).bind λ_=>(J55 (x1.2.1,x1.2.2.2.1)).bind λh=>some (x1.1,h,x1.2.2.1,J0t x1.2.2.2.2.2.2.1 (Int.toNat x1.2.2.2.1) e,x1.2.2.2.2.2.2.2)
def J2N(x1:J0i×JN):Option (Bool):=if leI x1.2.2.1 x1.1.2.1=false then if gtI x1.2.2.1 1099511627776=false then if ltI x1.2.2.2.1 0=false then if geI x1.2.2.2.1 (J0 x1.1.1)=false then if ltI x1.2.2.2.2.1 0=false then if geI x1.2.2.2.2.1 (J0 x1.1.1)=false then if ltI x1.2.2.2.2.2.1 0=false then if geI x1.2.2.2.2.2.1 256 then some false else if eqI x1.2.1 1 then some (eqT JL x1.2 (x1.2.1,x1.2.2.1,0,0,0,0))else if eqI x1.2.1 6 then some (eqT JL x1.2 (x1.2.1,x1.2.2.1,0,0,0,0))else if eqI x1.2.1 2 then some (eqT JL x1.2 (x1.2.1,x1.2.2.1,0,x1.2.2.2.2.1,0,0))else if eqI x1.2.1 3 then some (eqT JL x1.2 (x1.2.1,x1.2.2.1,0,0,x1.2.2.2.2.2.1,0))else if eqI x1.2.1 4 then if eqI x1.2.2.2.2.2.2 0 then some false else some (eqT JL x1.2 (x1.2.1,x1.2.2.1,x1.2.2.2.1,0,x1.2.2.2.2.2))else if eqI x1.2.1 5 then some (eqT JL x1.2 (x1.2.1,x1.2.2.1,x1.2.2.2.1,0,0,0))else some false else some false else some false else some false else some false else some false else some false else some false
def J9B(e:Int×J0i):Option ((Int×J0i)⊕Bool):=if ltI e.1 (J0 e.2.2.2.2.2)then(idx e.2.2.2.2.2 e.1).bind λg=>(J2N (e.2,g)).bind λh=>if Jo h then some (.inr false)else some (.inl (J1 .i64 e.1 1,e.2))else some (.inr true)
def J9X(e:JFY):Option ((JFY)⊕Bool):=if ltI e.2.1 (J0 e.2.2.2.2.1)then(idx e.2.2.2.2.1 e.2.1).bind λk=>if ltI k 0=false then(idx e.2.2.2.2.1 e.2.1).bind λh=>if geI h e.1=false then if gtI e.2.1 0 then(idx e.2.2.2.2.1 (JF .i64 e.2.1 1)).bind λg=>(idx e.2.2.2.2.1 e.2.1).bind λj=>if geI g j then some (.inr false)else some (.inl (e.1,J1 .i64 e.2.1 1,e.2.2))else some (.inl (e.1,J1 .i64 e.2.1 1,e.2.2))else some (.inr false)else some (.inr false)else Option.map .inr (Jf (J9B) (0,e.2.2))
def J9r(z2:JFY):Option ((JFY)⊕Bool):=if ltI z2.2.1 z2.1 then(idx z2.2.2.1 z2.2.1).bind λe=>if neI (J0 e) 256 then some (.inr false)else some (.inl (z2.1,J1 .i64 z2.2.1 1,z2.2.2))else Option.map .inr (Jf (J9X) (z2.1,0,z2.2.2))
def J2O(x1:J0i):Option (Bool):=if ltI (J0 x1.1) 1=false then if gtI (J0 x1.1) 64=false then if ltI x1.2.1 0=false then if gtI x1.2.1 1099511627776=false then if gtI (J0 x1.2.2.2.2) 64 then some false else Jf (J9r) (J0 x1.1,0,x1)else some false else some false else some false else some false
def J2c(x1:J5E):Option (Int):=(J2O x1.1).bind λe=>if Jo e then some 15 else if x1.1.2.2.2.1 then some 10 else if ltI x1.2 0=false then if geI x1.2 (J0 x1.1.1)then some 1 else some 0 else some 1
def Ji8(z2:JGe):Option ((JGe)⊕(List Int)):=if ltI z2.2.2.2.1 (J0 z2.1)then if Jo z2.2.2.1 then(idx z2.1 z2.2.2.2.1).bind λr=>if geI r z2.2.1 then(Jz 8 z2.2.2.2.2 [z2.2.1]).bind λn=>(idx z2.1 z2.2.2.2.1).bind λx=>if neI x z2.2.1 then(idx z2.1 z2.2.2.2.1).bind λq=>(Jz 8 n [q]).bind λo=>some (.inl (z2.1,z2.2.1,true,J1 .i64 z2.2.2.2.1 1,o))else some (.inl (z2.1,z2.2.1,true,J1 .i64 z2.2.2.2.1 1,n))else(idx z2.1 z2.2.2.2.1).bind λw=>if neI w z2.2.1 then(idx z2.1 z2.2.2.2.1).bind λv=>(Jz 8 z2.2.2.2.2 [v]).bind λe=>some (.inl (z2.1,z2.2.1,z2.2.2.1,J1 .i64 z2.2.2.2.1 1,e))else some (.inl (z2.1,z2.2.1,z2.2.2.1,J1 .i64 z2.2.2.2.1 1,z2.2.2.2.2))else(idx z2.1 z2.2.2.2.1).bind λj=>if neI j z2.2.1 then(idx z2.1 z2.2.2.2.1).bind λh=>(Jz 8 z2.2.2.2.2 [h]).bind λk=>some (.inl (z2.1,z2.2.1,z2.2.2.1,J1 .i64 z2.2.2.2.1 1,k))else some (.inl (z2.1,z2.2.1,z2.2.2.1,J1 .i64 z2.2.2.2.1 1,z2.2.2.2.2))else Option.map .inr (if Jo z2.2.2.1 then(Jz 8 z2.2.2.2.2 [z2.2.1]).bind λg=>some g else some z2.2.2.2.2)
def J4I(x1:J8T):Option (List Int):=Jf (Ji8) (x1.1,x1.2,false,0,[])
def J5m(e:TQ7):Option ((TQ7)⊕(J5E)):=if ltI e.1 (J0 e.2.2.2.2.2.2.2.2.2.2.2.2.2.1)then(inb (List.length e.2.2.2.2.2.2.2.2.2.2.2.2.2.1) e.1).bind λ_=>(lat e.2.2.2.2.2.2.2.2.2.2.2.2.2.1 (Int.toNat e.1)).bind λg=>if eqI g.1 4 then(inb (List.length e.2.2.2.2.2.2.2.1) g.2.2.1).bind λ_=>(lat e.2.2.2.2.2.2.2.1 (Int.toNat g.2.2.1)).bind λh=>(inb (List.length (toByt h)) g.2.2.2.2.1).bind λ_=>(lat (toByt h) (Int.toNat g.2.2.2.2.1)).bind λj=>(inb (List.length (toByt h)) g.2.2.2.2.1).bind λ_=>(lat (toByt h) (Int.toNat g.2.2.2.2.1)).bind λ_=>(inb (List.length e.2.2.2.2.2.2.2.1) g.2.2.1).bind λ_=>(lat e.2.2.2.2.2.2.2.1 (Int.toNat g.2.2.1)).bind λ_=>some (.inl (J1 .i64 e.1 1,e.2.1,e.2.2.1,e.2.2.2.1,e.2.2.2.2.1,e.2.2.2.2.2.1,e.2.2.2.2.2.2.1,J0t e.2.2.2.2.2.2.2.1 (Int.toNat g.2.2.1) (toStr (J0t (toByt h) (Int.toNat g.2.2.2.2.1) (Jgo .u8 j g.2.2.2.2.2))),e.2.2.2.2.2.2.2.2))else if eqI g.1 5 then(J4I (e.2.2.2.2.2.2.2.2.2.2.2.1,g.2.2.1)).bind λk=>some (.inl (J1 .i64 e.1 1,e.2.1,e.2.2.1,e.2.2.2.1,e.2.2.2.2.1,e.2.2.2.2.2.1,e.2.2.2.2.2.2.1,e.2.2.2.2.2.2.2.1,e.2.2.2.2.2.2.2.2.1,e.2.2.2.2.2.2.2.2.2.1,e.2.2.2.2.2.2.2.2.2.2.1,k,e.2.2.2.2.2.2.2.2.2.2.2.2))else if eqI g.1 6 then some (.inl (J1 .i64 e.1 1,e.2.1,e.2.2.1,e.2.2.2.1,e.2.2.2.2.1,e.2.2.2.2.2.1,e.2.2.2.2.2.2.1,e.2.2.2.2.2.2.2.1,e.2.2.2.2.2.2.2.2.1,e.2.2.2.2.2.2.2.2.2.1,e.2.2.2.2.2.2.2.2.2.2.1,e.2.2.2.2.2.2.2.2.2.2.2.1,true,e.2.2.2.2.2.2.2.2.2.2.2.2.2))else some (.inl (J1 .i64 e.1 1,e.2))else some (.inr ((e.2.2.2.2.2.2.2.1,e.2.2.2.2.2.2.2.2.2.2.1,e.2.2.2.2.2.2.2.2.2.2.2.1,e.2.2.2.2.2.2.2.2.2.2.2.2.1,e.2.2.2.2.2.2.2.2.2.2.2.2.2.2),0))
def JsV(e:TQ7):Option ((TQ7)⊕(J5E)):=if ltI e.1 (J0 e.2.2.2.2.2.2.2.2.2.2.2.2.2.1)then(inb (List.length e.2.2.2.2.2.2.2.2.2.2.2.2.2.1) e.1).bind λ_=>(lat e.2.2.2.2.2.2.2.2.2.2.2.2.2.1 (Int.toNat e.1)).bind λg=>if eqI g.1 4 then(inb (List.length e.2.2.2.2.2.2.2.1) g.2.2.1).bind λ_=>(lat e.2.2.2.2.2.2.2.1 (Int.toNat g.2.2.1)).bind λh=>(inb (List.length (toByt h)) g.2.2.2.2.1).bind λ_=>(lat (toByt h) (Int.toNat g.2.2.2.2.1)).bind λj=>(inb (List.length (toByt h)) g.2.2.2.2.1).bind λ_=>(lat (toByt h) (Int.toNat g.2.2.2.2.1)).bind λ_=>(inb (List.length e.2.2.2.2.2.2.2.1) g.2.2.1).bind λ_=>(lat e.2.2.2.2.2.2.2.1 (Int.toNat g.2.2.1)).bind λ_=>some (.inl (J1 .i64 e.1 1,e.2.1,e.2.2.1,e.2.2.2.1,e.2.2.2.2.1,e.2.2.2.2.2.1,e.2.2.2.2.2.2.1,J0t e.2.2.2.2.2.2.2.1 (Int.toNat g.2.2.1) (toStr (J0t (toByt h) (Int.toNat g.2.2.2.2.1) (Jgo .u8 j g.2.2.2.2.2))),e.2.2.2.2.2.2.2.2))else if eqI g.1 5 then(J4I (e.2.2.2.2.2.2.2.2.2.2.2.1,g.2.2.1)).bind λk=>some (.inl (J1 .i64 e.1 1,e.2.1,e.2.2.1,e.2.2.2.1,e.2.2.2.2.1,e.2.2.2.2.2.1,e.2.2.2.2.2.2.1,e.2.2.2.2.2.2.2.1,e.2.2.2.2.2.2.2.2.1,e.2.2.2.2.2.2.2.2.2.1,e.2.2.2.2.2.2.2.2.2.2.1,k,e.2.2.2.2.2.2.2.2.2.2.2.2))else if eqI g.1 6 then some (.inl (J1 .i64 e.1 1,e.2.1,e.2.2.1,e.2.2.2.1,e.2.2.2.2.1,e.2.2.2.2.2.1,e.2.2.2.2.2.2.1,e.2.2.2.2.2.2.2.1,e.2.2.2.2.2.2.2.2.1,e.2.2.2.2.2.2.2.2.2.1,e.2.2.2.2.2.2.2.2.2.2.1,e.2.2.2.2.2.2.2.2.2.2.2.1,true,e.2.2.2.2.2.2.2.2.2.2.2.2.2))else some (.inl (J1 .i64 e.1 1,e.2))else some (.inr ((e.2.2.2.2.2.2.2.1,e.2.2.2.2.2.2.2.2.2.2.1,e.2.2.2.2.2.2.2.2.2.2.2.1,e.2.2.2.2.2.2.2.2.2.2.2.2.1,e.2.2.2.2.2.2.2.2.2.2.2.2.2.2),0))
def JsA(e:TQ7):Option ((TQ7)⊕(J5E)):=if ltI e.1 (J0 e.2.2.2.2.2.2.2.2.2.2.2.2.2.1)then(inb (List.length e.2.2.2.2.2.2.2.2.2.2.2.2.2.1) e.1).bind λ_=>(lat e.2.2.2.2.2.2.2.2.2.2.2.2.2.1 (Int.toNat e.1)).bind λg=>if eqI g.1 4 then(inb (List.length e.2.2.2.2.2.2.2.1) g.2.2.1).bind λ_=>(lat e.2.2.2.2.2.2.2.1 (Int.toNat g.2.2.1)).bind λh=>(inb (List.length (toByt h)) g.2.2.2.2.1).bind λ_=>(lat (toByt h) (Int.toNat g.2.2.2.2.1)).bind λj=>(inb (List.length (toByt h)) g.2.2.2.2.1).bind λ_=>(lat (toByt h) (Int.toNat g.2.2.2.2.1)).bind λ_=>(inb (List.length e.2.2.2.2.2.2.2.1) g.2.2.1).bind λ_=>(lat e.2.2.2.2.2.2.2.1 (Int.toNat g.2.2.1)).bind λ_=>some (.inl (J1 .i64 e.1 1,e.2.1,e.2.2.1,e.2.2.2.1,e.2.2.2.2.1,e.2.2.2.2.2.1,e.2.2.2.2.2.2.1,J0t e.2.2.2.2.2.2.2.1 (Int.toNat g.2.2.1) (toStr (J0t (toByt h) (Int.toNat g.2.2.2.2.1) (Jgo .u8 j g.2.2.2.2.2))),e.2.2.2.2.2.2.2.2))else if eqI g.1 5 then(J4I (e.2.2.2.2.2.2.2.2.2.2.2.1,g.2.2.1)).bind λk=>some (.inl (J1 .i64 e.1 1,e.2.1,e.2.2.1,e.2.2.2.1,e.2.2.2.2.1,e.2.2.2.2.2.1,e.2.2.2.2.2.2.1,e.2.2.2.2.2.2.2.1,e.2.2.2.2.2.2.2.2.1,e.2.2.2.2.2.2.2.2.2.1,e.2.2.2.2.2.2.2.2.2.2.1,k,e.2.2.2.2.2.2.2.2.2.2.2.2))else if eqI g.1 6 then some (.inl (J1 .i64 e.1 1,e.2.1,e.2.2.1,e.2.2.2.1,e.2.2.2.2.1,e.2.2.2.2.2.1,e.2.2.2.2.2.2.1,e.2.2.2.2.2.2.2.1,e.2.2.2.2.2.2.2.2.1,e.2.2.2.2.2.2.2.2.2.1,e.2.2.2.2.2.2.2.2.2.2.1,e.2.2.2.2.2.2.2.2.2.2.2.1,true,e.2.2.2.2.2.2.2.2.2.2.2.2.2))else some (.inl (J1 .i64 e.1 1,e.2))else some (.inr ((e.2.2.2.2.2.2.2.1,e.2.2.2.2.2.2.2.2.2.2.1,e.2.2.2.2.2.2.2.2.2.2.2.1,e.2.2.2.2.2.2.2.2.2.2.2.2.1,e.2.2.2.2.2.2.2.2.2.2.2.2.2.2),0))
def Js9(e:TQ7):Option ((TQ7)⊕(J5E)):=if ltI e.1 (J0 e.2.2.2.2.2.2.2.2.2.2.2.2.2.1)then(inb (List.length e.2.2.2.2.2.2.2.2.2.2.2.2.2.1) e.1).bind λ_=>(lat e.2.2.2.2.2.2.2.2.2.2.2.2.2.1 (Int.toNat e.1)).bind λg=>if eqI g.1 4 then(inb (List.length e.2.2.2.2.2.2.2.1) g.2.2.1).bind λ_=>(lat e.2.2.2.2.2.2.2.1 (Int.toNat g.2.2.1)).bind λh=>(inb (List.length (toByt h)) g.2.2.2.2.1).bind λ_=>(lat (toByt h) (Int.toNat g.2.2.2.2.1)).bind λj=>(inb (List.length (toByt h)) g.2.2.2.2.1).bind λ_=>(lat (toByt h) (Int.toNat g.2.2.2.2.1)).bind λ_=>(inb (List.length e.2.2.2.2.2.2.2.1) g.2.2.1).bind λ_=>(lat e.2.2.2.2.2.2.2.1 (Int.toNat g.2.2.1)).bind λ_=>some (.inl (J1 .i64 e.1 1,e.2.1,e.2.2.1,e.2.2.2.1,e.2.2.2.2.1,e.2.2.2.2.2.1,e.2.2.2.2.2.2.1,J0t e.2.2.2.2.2.2.2.1 (Int.toNat g.2.2.1) (toStr (J0t (toByt h) (Int.toNat g.2.2.2.2.1) (Jgo .u8 j g.2.2.2.2.2))),e.2.2.2.2.2.2.2.2))else if eqI g.1 5 then(J4I (e.2.2.2.2.2.2.2.2.2.2.2.1,g.2.2.1)).bind λk=>some (.inl (J1 .i64 e.1 1,e.2.1,e.2.2.1,e.2.2.2.1,e.2.2.2.2.1,e.2.2.2.2.2.1,e.2.2.2.2.2.2.1,e.2.2.2.2.2.2.2.1,e.2.2.2.2.2.2.2.2.1,e.2.2.2.2.2.2.2.2.2.1,e.2.2.2.2.2.2.2.2.2.2.1,k,e.2.2.2.2.2.2.2.2.2.2.2.2))else if eqI g.1 6 then some (.inl (J1 .i64 e.1 1,e.2.1,e.2.2.1,e.2.2.2.1,e.2.2.2.2.1,e.2.2.2.2.2.1,e.2.2.2.2.2.2.1,e.2.2.2.2.2.2.2.1,e.2.2.2.2.2.2.2.2.1,e.2.2.2.2.2.2.2.2.2.1,e.2.2.2.2.2.2.2.2.2.2.1,e.2.2.2.2.2.2.2.2.2.2.2.1,true,e.2.2.2.2.2.2.2.2.2.2.2.2.2))else some (.inl (J1 .i64 e.1 1,e.2))else some (.inr ((e.2.2.2.2.2.2.2.1,e.2.2.2.2.2.2.2.2.2.2.1,e.2.2.2.2.2.2.2.2.2.2.2.1,e.2.2.2.2.2.2.2.2.2.2.2.2.1,e.2.2.2.2.2.2.2.2.2.2.2.2.2.2),0))
def J9M(e:TQ5):Option ((TQ5)⊕(J5E)):=if ltI e.2.2.2.1 (J0 e.2.2.2.2.2.2.2.2.2.2.2.2.2.2.2.2.1)then if Jo e.2.2.1 then(inb (List.length e.2.2.2.2.2.2.2.2.2.2.2.2.2.2.2.2.1) e.2.2.2.1).bind λ_=>(lat e.2.2.2.2.2.2.2.2.2.2.2.2.2.2.2.2.1 (Int.toNat e.2.2.2.1)).bind λn=>if eqI n.1 1 then some (.inl (e.1,e.2.1,true,J1 .i64 e.2.2.2.1 1,e.2.2.2.2))else if eqI n.1 2 then(inb (List.length e.2.2.2.2.2.2.2.2.2.2.2.2.2.2.2.2.1) e.2.2.2.1).bind λ_=>(lat e.2.2.2.2.2.2.2.2.2.2.2.2.2.2.2.2.1 (Int.toNat e.2.2.2.1)).bind λo=>(J1s (e.2.2.2.2.2.2.2.2.2.2.2.2.2.1,e.2.2.2.2.2.2.2.2.2.2.2.2.2.2.1,e.2.2.2.2.2.2.2.2.2.2.2.2.2.2.2.1,o.2.2.2.1,e.2.1,256,e.2.2.2.2.2.2.2.2.2.2.1,e.2.2.2.2.2.2.2.2.2.2.2.2.2.2.2.2.2)).bind λj=>some (.inl (e.1,e.2.1,true,J1 .i64 e.2.2.2.1 1,e.2.2.2.2.1,e.2.2.2.2.2.1,e.2.2.2.2.2.2.1,e.2.2.2.2.2.2.2.1,e.2.2.2.2.2.2.2.2.1,e.2.2.2.2.2.2.2.2.2.1,j.2.2.2.1,e.2.2.2.2.2.2.2.2.2.2.2.1,e.2.2.2.2.2.2.2.2.2.2.2.2.1,j.1,j.2.1,j.2.2.1,e.2.2.2.2.2.2.2.2.2.2.2.2.2.2.2.2.1,j.2.2.2.2))else if eqI n.1 3 then(inb (List.length e.2.2.2.2.2.2.2.2.2.2.2.2.2.2.2.2.1) e.2.2.2.1).bind λ_=>(lat e.2.2.2.2.2.2.2.2.2.2.2.2.2.2.2.2.1 (Int.toNat e.2.2.2.1)).bind λq=>(J1s (e.2.2.2.2.2.2.2.2.2.2.2.2.2.1,e.2.2.2.2.2.2.2.2.2.2.2.2.2.2.1,e.2.2.2.2.2.2.2.2.2.2.2.2.2.2.2.1,e.1,e.2.1,q.2.2.2.2.1,e.2.2.2.2.2.2.2.2.2.2.1,e.2.2.2.2.2.2.2.2.2.2.2.2.2.2.2.2.2)).bind λk=>some (.inl (e.1,e.2.1,true,J1 .i64 e.2.2.2.1 1,e.2.2.2.2.1,e.2.2.2.2.2.1,e.2.2.2.2.2.2.1,e.2.2.2.2.2.2.2.1,e.2.2.2.2.2.2.2.2.1,e.2.2.2.2.2.2.2.2.2.1,k.2.2.2.1,e.2.2.2.2.2.2.2.2.2.2.2.1,e.2.2.2.2.2.2.2.2.2.2.2.2.1,k.1,k.2.1,k.2.2.1,e.2.2.2.2.2.2.2.2.2.2.2.2.2.2.2.2.1,k.2.2.2.2))else some (.inl (e.1,e.2.1,e.2.2.1,J1 .i64 e.2.2.2.1 1,e.2.2.2.2))else Option.map .inr (if Jo e.2.2.1 then(J1s (e.2.2.2.2.2.2.2.2.2.2.2.2.2.1,e.2.2.2.2.2.2.2.2.2.2.2.2.2.2.1,e.2.2.2.2.2.2.2.2.2.2.2.2.2.2.2.1,e.1,e.2.1,256,e.2.2.2.2.2.2.2.2.2.2.1,e.2.2.2.2.2.2.2.2.2.2.2.2.2.2.2.2.2)).bind λh=>Jf (J5m) (0,e.2.2.2.2.1,e.2.2.2.2.2.1,e.2.2.2.2.2.2.1,e.2.2.2.2.2.2.2.1,e.2.2.2.2.2.2.2.2.1,e.2.2.2.2.2.2.2.2.2.1,h.2.2.2.1,e.2.2.2.2.2.2.2.2.2.2.2.1,e.2.2.2.2.2.2.2.2.2.2.2.2.1,h.1,h.2.1,h.2.2.1,e.2.2.2.2.2.2.2.2.2.2.2.2.2.2.2.2.1,h.2.2.2.2)else Jf (JsV) (0,e.2.2.2.2))else Option.map .inr (if Jo e.2.2.1 then(J1s (e.2.2.2.2.2.2.2.2.2.2.2.2.2.1,e.2.2.2.2.2.2.2.2.2.2.2.2.2.2.1,e.2.2.2.2.2.2.2.2.2.2.2.2.2.2.2.1,e.1,e.2.1,256,e.2.2.2.2.2.2.2.2.2.2.1,e.2.2.2.2.2.2.2.2.2.2.2.2.2.2.2.2.2)).bind λg=>Jf (JsA) (0,e.2.2.2.2.1,e.2.2.2.2.2.1,e.2.2.2.2.2.2.1,e.2.2.2.2.2.2.2.1,e.2.2.2.2.2.2.2.2.1,e.2.2.2.2.2.2.2.2.2.1,g.2.2.2.1,e.2.2.2.2.2.2.2.2.2.2.2.1,e.2.2.2.2.2.2.2.2.2.2.2.2.1,g.1,g.2.1,g.2.2.1,e.2.2.2.2.2.2.2.2.2.2.2.2.2.2.2.2.1,g.2.2.2.2)else Jf (Js9) (0,e.2.2.2.2))
def J9P(e:TQ6):Option ((TQ6)⊕(J5E)):=if ltI e.2.2.1 (J0 e.2.2.2.1.2.2.2.2)then(idx e.2.2.2.1.2.2.2.2 e.2.2.1).bind λn=>if eqI n.2.1 e.2.2.2.2.2.2.2.2.2.2.2.2.1 then(idx e.2.2.2.1.2.2.2.2 e.2.2.1).bind λh=>(Jz 48 e.2.2.2.2.2.2.2.2.2.2.2.2.2.2.2.1 [h]).bind λg=>some (.inl (e.1,e.2.1,J1 .i64 e.2.2.1 1,e.2.2.2.1,e.2.2.2.2.1,e.2.2.2.2.2.1,e.2.2.2.2.2.2.1,e.2.2.2.2.2.2.2.1,e.2.2.2.2.2.2.2.2.1,e.2.2.2.2.2.2.2.2.2.1,e.2.2.2.2.2.2.2.2.2.2.1,e.2.2.2.2.2.2.2.2.2.2.2.1,e.2.2.2.2.2.2.2.2.2.2.2.2.1,e.2.2.2.2.2.2.2.2.2.2.2.2.2.1,e.2.2.2.2.2.2.2.2.2.2.2.2.2.2.1,g,e.2.2.2.2.2.2.2.2.2.2.2.2.2.2.2.2))else(idx e.2.2.2.1.2.2.2.2 e.2.2.1).bind λk=>(Jz 48 e.2.2.2.2.2.2.2.2.2.2.2.2.2.2.2.2 [k]).bind λj=>some (.inl (e.1,e.2.1,J1 .i64 e.2.2.1 1,e.2.2.2.1,e.2.2.2.2.1,e.2.2.2.2.2.1,e.2.2.2.2.2.2.1,e.2.2.2.2.2.2.2.1,e.2.2.2.2.2.2.2.2.1,e.2.2.2.2.2.2.2.2.2.1,e.2.2.2.2.2.2.2.2.2.2.1,e.2.2.2.2.2.2.2.2.2.2.2.1,e.2.2.2.2.2.2.2.2.2.2.2.2.1,e.2.2.2.2.2.2.2.2.2.2.2.2.2.1,e.2.2.2.2.2.2.2.2.2.2.2.2.2.2.1,e.2.2.2.2.2.2.2.2.2.2.2.2.2.2.2.1,j))else Option.map .inr (Jf (J9M) (e.1,e.2.1,false,0,e.2.2.2))
def J8N(x1:J0i×Int×(List UInt8)):Option (J5E):=(J2c (x1.1,x1.2.1)).bind λg=>if neI g 0 then some (([],0,[],false,[]),g)else if neI (J0 x1.2.2) 256 then some (([],0,[],false,[]),2)else if eqI x1.1.2.1 1099511627776 then some (([],0,[],false,[]),21)else(J6V x1.1).bind λe=>Jf (J9P) (x1.2.1,x1.2.2,0,x1.1,[],[],0,[],false,e.2.2.2.1,e.2.2.2.2,[],J1 .i64 e.1 1,e.2.1,e.2.2.1,[],[])
def J2d(x1:JY×Int×J06):Option (JY):=(J1T 424 x1.1.2.1).bind λe=>(inb (List.length e) x1.2.1).bind λ_=>(lat e (Int.toNat x1.2.1)).bind λ_=>some (x1.1.1,J0t e (Int.toNat x1.2.1) x1.2.2,x1.1.2.2)
def J8W(x1:Jz4):Option (J6K):=(J0g x1.1).bind λk=>if Jo k then some ((0,[],0),15)else(J1A (x1.1,x1.2.1)).bind λg=>if ltI g 0 then some ((0,[],0),18)else(idx x1.1.2.1 g).bind λe=>if gtI x1.2.2 e.1.2.1 then some ((0,[],0),9)else if Jo e.2.1 then some (x1.1,0)else if eqI e.1.2.1 x1.2.2 then(J2d (x1.1,g,e.1,false,0,e.2.2.2)).bind λn=>some (n,0)else if leI e.2.2.1 x1.2.2 then(J2d (x1.1,g,e.1,e.2.1,J1 .i64 x1.2.2 1,e.2.2.2)).bind λj=>some (j,0)else(J2d (x1.1,g,e)).bind λh=>some (h,0)
def J38(x1:Jdc):Option (J1F):=(JJ x1.1).bind λk=>if Jo k then some ((0,0,(0,[],0),(0,[],0),([],[]),[],[],[]),15)else if ltI x1.2.1 0=false then if geI x1.2.1 x1.1.1=false then if ltI x1.2.2 0=false then(J3I x1.1.2.2.1).bind λj=>if gtI x1.2.2 j then some ((0,0,(0,[],0),(0,[],0),([],[]),[],[],[]),1)else(J1k (x1.1.2.2.2.1,x1.2.1)).bind λn=>if geI n 0 then(J8W (x1.1.2.2.2.1,x1.2)).bind λh=>if neI h.2 0 then some ((0,0,(0,[],0),(0,[],0),([],[]),[],[],[]),h.2)else(J1b (x1.1,0,7,0,0,0,x1.2.2,(x1.2.1,0,(false,[]),false,[]),[])).bind λg=>if neI g.2.2 0 then some ((0,0,(0,[],0),(0,[],0),([],[]),[],[],[]),g.2.2)else some ((g.1.1,g.1.2.1,g.1.2.2.1,h.1,g.1.2.2.2.2),0)else(J1b (x1.1,0,7,0,0,0,x1.2.2,(x1.2.1,0,(false,[]),false,[]),[])).bind λe=>if neI e.2.2 0 then some ((0,0,(0,[],0),(0,[],0),([],[]),[],[],[]),e.2.2)else some ((e.1.1,e.1.2.1,e.1.2.2.1,x1.1.2.2.2.1,e.1.2.2.2.2),0)else some ((0,0,(0,[],0),(0,[],0),([],[]),[],[],[]),1)else some ((0,0,(0,[],0),(0,[],0),([],[]),[],[],[]),1)else some ((0,0,(0,[],0),(0,[],0),([],[]),[],[],[]),1)
def J3k(x1:JJK):Option (J3r):=(J4q x1.2.2).bind λh=>(J8N (x1.1.2,x1.2.2.1,h.1)).bind λe=>if neI e.2 0 then some (((0,0,(0,[],0),(0,[],0),([],[]),[],[],[]),[],0,[],false,[]),e.2)else(J38 (x1.2.1,x1.2.2.1,x1.2.2.2.1)).bind λg=>if neI g.2 0 then some (((0,0,(0,[],0),(0,[],0),([],[]),[],[],[]),[],0,[],false,[]),g.2)else some ((g.1,e.1),0)
def J8A(x1:J3r):Option (J3r):=(J48 (x1.1.1,x1.2)).bind λe=>if neI e.2.2 0 then some (((0,0,(0,[],0),(0,[],0),([],[]),[],[],[]),[],0,[],false,[]),e.2.2)else(J1k (x1.1.1.2.2.2.1,x1.2)).bind λg=>(idx x1.1.1.2.2.2.1.2.1 g).bind λh=>if Jo h.2.1 then some (x1.1,0)else(J3k (x1.1,e.1,e.2.1)).bind λj=>some j
def Jir(z2:JNj):Option ((JNj)⊕(List T_api_Grant)):=if ltI z2.2.2.2.1 (J0 z2.1)then(idx z2.1 z2.2.2.2.1).bind λh=>if neI h.1 z2.2.1=false then if z2.2.2.1 then(idx z2.1 z2.2.2.2.1).bind λk=>if Jo (eqT J07 k.2.1 z2.2.2.2.2.1)then(idx z2.1 z2.2.2.2.1).bind λn=>(Jz 32 z2.2.2.2.2.2 [n]).bind λg=>some (.inl (z2.1,z2.2.1,z2.2.2.1,J1 .i64 z2.2.2.2.1 1,z2.2.2.2.2.1,g))else some (.inl (z2.1,z2.2.1,z2.2.2.1,J1 .i64 z2.2.2.2.1 1,z2.2.2.2.2))else some (.inl (z2.1,z2.2.1,z2.2.2.1,J1 .i64 z2.2.2.2.1 1,z2.2.2.2.2))else(idx z2.1 z2.2.2.2.1).bind λe=>(Jz 32 z2.2.2.2.2.2 [e]).bind λj=>some (.inl (z2.1,z2.2.1,z2.2.2.1,J1 .i64 z2.2.2.2.1 1,z2.2.2.2.2.1,j))else some (.inr z2.2.2.2.2.2)
def J4O(x1:JNi):Option (List T_api_Grant):=Jf (Jir) (x1.1,x1.2.1,x1.2.2.1,0,x1.2.2.2,[])
def JiB(e:Jbh):Option ((Jbh)⊕Bool):=if ltI e.2.1 e.1 then(idx e.2.2.2 e.2.1).bind λh=>(idx e.2.2.2 e.1).bind λg=>(J1Z (h,g)).bind λj=>if j then some (.inr false)else some (.inl (e.1,J1 .i64 e.2.1 1,e.2.2))else some (.inr true)
def JiP(z2:Jbh):Option ((Jbh)⊕Bool):=if ltI z2.2.1 (J0 z2.2.2.1)then(idx z2.2.2.1 z2.2.1).bind λe=>(idx z2.2.2.2 z2.1).bind λg=>(J1Z (e,g)).bind λh=>if h then some (.inr false)else some (.inl (z2.1,J1 .i64 z2.2.1 1,z2.2.2))else Option.map .inr (Jf (JiB) (z2.1,0,z2.2.2))
def J9v(x1:J8J):Option (Bool):=Jf (JiP) (x1.2,0,x1.1)
def Jhz(z2:JJ6):Option ((JJ6)⊕(List T_api_Grant)):=if ltI z2.2.2.1 (J0 z2.1)then if Jo z2.2.1 then(idx z2.1 z2.2.2.1).bind λD=>(J7h (D,z2.2.2.2.1)).bind λH=>if Jo H then(Jz 32 z2.2.2.2.2 [z2.2.2.2.1]).bind λe=>(idx z2.1 z2.2.2.1).bind λF=>if neI F.1 z2.2.2.2.1.1=false then(idx z2.1 z2.2.2.1).bind λC=>if Jo (eqT J07 C.2.1 z2.2.2.2.1.2.1)then(idx z2.1 z2.2.2.1).bind λE=>(Jz 32 e [E]).bind λG=>some (.inl (z2.1,true,J1 .i64 z2.2.2.1 1,z2.2.2.2.1,G))else some (.inl (z2.1,true,J1 .i64 z2.2.2.1 1,z2.2.2.2.1,e))else(idx z2.1 z2.2.2.1).bind λg=>(Jz 32 e [g]).bind λB=>some (.inl (z2.1,true,J1 .i64 z2.2.2.1 1,z2.2.2.2.1,B))else(idx z2.1 z2.2.2.1).bind λz=>if neI z.1 z2.2.2.2.1.1=false then(idx z2.1 z2.2.2.1).bind λh=>if Jo (eqT J07 h.2.1 z2.2.2.2.1.2.1)then(idx z2.1 z2.2.2.1).bind λx=>(Jz 32 z2.2.2.2.2 [x]).bind λn=>some (.inl (z2.1,z2.2.1,J1 .i64 z2.2.2.1 1,z2.2.2.2.1,n))else some (.inl (z2.1,z2.2.1,J1 .i64 z2.2.2.1 1,z2.2.2.2))else(idx z2.1 z2.2.2.1).bind λy=>(Jz 32 z2.2.2.2.2 [y]).bind λq=>some (.inl (z2.1,z2.2.1,J1 .i64 z2.2.2.1 1,z2.2.2.2.1,q))else(idx z2.1 z2.2.2.1).bind λr=>if neI r.1 z2.2.2.2.1.1=false then(idx z2.1 z2.2.2.1).bind λw=>if Jo (eqT J07 w.2.1 z2.2.2.2.1.2.1)then(idx z2.1 z2.2.2.1).bind λv=>(Jz 32 z2.2.2.2.2 [v]).bind λj=>some (.inl (z2.1,z2.2.1,J1 .i64 z2.2.2.1 1,z2.2.2.2.1,j))else some (.inl (z2.1,z2.2.1,J1 .i64 z2.2.2.1 1,z2.2.2.2))else(idx z2.1 z2.2.2.1).bind λA=>(Jz 32 z2.2.2.2.2 [A]).bind λo=>some (.inl (z2.1,z2.2.1,J1 .i64 z2.2.2.1 1,z2.2.2.2.1,o))else Option.map .inr (if Jo z2.2.1 then(Jz 32 z2.2.2.2.2 [z2.2.2.2.1]).bind λk=>some k else some z2.2.2.2.2)
def Jag(x1:JHD):Option (List T_api_Grant):=Jf (Jhz) (x1.1,false,0,x1.2,[])
def JdM(z2:Int×JZ×JZ):Option ((Int×JZ×JZ)⊕JZ):=if ltI z2.1 (J0 z2.2.1.2)then(J9v (z2.2.1,z2.1)).bind λh=>if h then(idx z2.2.1.2 z2.1).bind λn=>(Jag (z2.2.1.1,n)).bind λo=>(J0B z2.2.1.2 none (some z2.1)).bind λg=>(J1T 32 g).bind λe=>(J0B z2.2.1.2 (some (J1 .i64 z2.1 1)) none).bind λk=>(Jz 32 e k).bind λj=>some (.inl (J1 .i64 (-1) 1,(o,j),z2.2.2))else some (.inl (J1 .i64 z2.1 1,z2.2))else some (.inr z2.2.1)
def J2U(x1:JZ):Option (JZ):=Jf (JdM) (0,x1,[],[])
def J3e(x1:J8J):Option (JZ):=(J1i x1.1).bind λg=>if Jo g then some x1.1 else(J4O (x1.1.1,x1.2,false,0,0)).bind λe=>(J4O (x1.1.2,x1.2,false,0,0)).bind λh=>(J2U (e,h)).bind λj=>some j
def J16(x1:J1F):Option (Js×Int):=(JJ x1.1).bind λg=>if Jo g then some ((0,0,0,0,[],[]),15)else(J0L (x1.1.2.2.2.2.2.1,x1.2)).bind λe=>if ltI e 0 then some ((0,0,0,0,[],[]),16)else(idx x1.1.2.2.2.2.2.1 e).bind λh=>if eqI h.2.1 1 then some ((0,0,0,0,[],[]),15)else(idx x1.1.2.2.2.2.2.1 e).bind λj=>some (j,0)
def J3a(x1:J1F):Option (JoF):=(J16 x1).bind λe=>if neI e.2 0=false then if eqI (J0 e.1.2.2.2.2.1) 0=false then(idx e.1.2.2.2.2.1 (JF .i64 (J0 e.1.2.2.2.2.1) 1)).bind λh=>if leI h e.1.2.2.2.1 then some ((0,0,0,0,0,0,(0,0,(false,[]),false,[]),[]),false)else(idx e.1.2.2.2.2.1 (JF .i64 (J0 e.1.2.2.2.2.1) 1)).bind λj=>(J0I (x1.1.2.2.1,j)).bind λg=>some (g.1,eqI g.2 0)else some ((0,0,0,0,0,0,(0,0,(false,[]),false,[]),[]),false)else some ((0,0,0,0,0,0,(0,0,(false,[]),false,[]),[]),false)
def J3n(x1:JU×J1M):Option (J8U):=(J26 x1.2).bind λe=>if Jo e then some ((0,0,Vector.replicate 16 (false,[])),22)else if neI x1.2.1 x1.1.1 then some ((0,0,Vector.replicate 16 (false,[])),6)else(inb 16 x1.2.2.1).bind λ_=>(vat x1.1.2.2 (Int.toNat x1.2.2.1)).bind λg=>if Jo (eqT JE g x1.2.2.2.1)then some ((0,0,Vector.replicate 16 (false,[])),20)else(inb 16 x1.2.2.1).bind λ_=>(vat x1.1.2.2 (Int.toNat x1.2.2.1)).bind λ_=>some ((x1.1.1,x1.1.2.1,Jom x1.1.2.2 (Int.toNat x1.2.2.1) x1.2.2.2.2),0)
def J6E(x1:J1M):Option (J1M):=some (x1.1,x1.2.1,x1.2.2.2,x1.2.2.1)
def J79(x1:JyZ):Option (JZ):=(J1i x1.1).bind λg=>if Jo g then some x1.1 else(J4O (x1.1.1,x1.2.1,true,x1.2.2)).bind λe=>(J2U (e,x1.1.2)).bind λh=>some h
def J7Q(x1:Jz2):Option (J6K):=(J0g x1.1).bind λn=>if Jo n then some ((0,[],0),15)else(J24 x1.2).bind λh=>if neI h 0 then some ((0,[],0),h)else(J1A (x1.1,x1.2.1)).bind λe=>if ltI e 0 then some ((0,[],0),18)else(idx x1.1.2.1 e).bind λg=>if leI x1.2.2.1 g.1.2.1 then some ((0,[],0),8)else if Jo g.2.1 then(J2d (x1.1,e,x1.2,true,x1.2.2.1,true)).bind λk=>some (k,0)else(J2d (x1.1,e,x1.2,true,g.2.2.1,true)).bind λj=>some (j,0)
def J6r(x1:JtI):Option (J1F):=(J1b x1).bind λe=>if neI e.2.2 0 then some (x1.1,e.2.2)else(J2J (x1.1.2.2.2.1,x1.2.2.2.2.2.2.2.1.1)).bind λh=>(inb 16 x1.2.2.2.2.2.2.2.1.2.1).bind λ_=>(vat h.1.2.2 (Int.toNat x1.2.2.2.2.2.2.2.1.2.1)).bind λ_=>(J7Q (x1.1.2.2.2.1,h.1.1,e.2.1,Jom h.1.2.2 (Int.toNat x1.2.2.2.2.2.2.2.1.2.1) x1.2.2.2.2.2.2.2.1.2.2.2)).bind λg=>if neI g.2 0 then some (x1.1,g.2)else some ((e.1.1,e.1.2.1,e.1.2.2.1,g.1,e.1.2.2.2.2),0)
def JcT(z2:TQ36):Option ((TQ36)⊕(JoF)):=if geI z2.1 0 then(idx z2.2.2.1.2.2.2.2.1 z2.1).bind λg=>(J0I (z2.2.1.2.2.1,g)).bind λe=>if eqI e.2 0 then if eqI e.1.2.2.2.2.2.2.1.1 z2.2.2.2.1.1 then if eqI e.1.2.2.2.2.2.2.1.2.1 z2.2.2.2.1.2 then some (.inr (e.1,true))else some (.inl (JF .i64 z2.1 1,z2.2))else some (.inl (JF .i64 z2.1 1,z2.2))else some (.inl (JF .i64 z2.1 1,z2.2))else some (.inr ((0,0,0,0,0,0,(0,0,(false,[]),false,[]),[]),false))
def J64(x1:JNH):Option (JoF):=Jf (JcT) (JF .i64 x1.2.2.2 1,x1.1,x1.2.1,x1.2.2.1,0,0,0,0,0,0,(0,0,(false,[]),false,[]),[])
def J2w(x1:Jvj):Option (JoF):=(J16 (x1.1,x1.2.1)).bind λe=>if neI e.2 0=false then if neI e.1.2.1 3 then some ((0,0,0,0,0,0,(0,0,(false,[]),false,[]),[]),false)else(J64 (x1.1,e.1,x1.2.2,J0 e.1.2.2.2.2.1)).bind λg=>some g else some ((0,0,0,0,0,0,(0,0,(false,[]),false,[]),[]),false)
def J23(x1:JG4):Option (J67):=(J2J (x1.1.2.2.2.1,x1.2.2.2.2.2.2.2.2.1.1)).bind λh=>if Jo h.2 then some (x1.1,3,0,x1.2.2.2.2.2.2.2.2.1.1,(false,[]),0)else(J6E x1.2.2.2.2.2.2.2.2.1).bind λg=>(J3n (h.1,g)).bind λj=>if neI j.2 0 then(Jv j.2).bind λq=>some (x1.1,q)else(J6r (x1.1,0,2,x1.2.1.1,0,0,x1.2.2.1,g,[])).bind λe=>if neI e.2 0 then(Jv e.2).bind λk=>some (x1.1,k)else if eqI x1.2.1.2.1 3 then(J2w (e.1,x1.2.1.1,g.1,g.2.1)).bind λo=>if Jo o.2 then(J79 (e.1.2.2.2.2.1,x1.2.1.1,g.1,g.2.1)).bind λn=>some ((e.1.1,e.1.2.1,e.1.2.2.1,e.1.2.2.2.1,n,e.1.2.2.2.2.2),1,x1.2.1.1,0,(false,[]),0)else some (e.1,1,x1.2.1.1,0,(false,[]),0)else some (e.1,1,x1.2.1.1,0,(false,[]),0)
def J1a(x1:J1F):Option (J67):=(J16 x1).bind λg=>if neI g.2 0 then(Jv g.2).bind λq=>some (x1.1,q)else if eqI g.1.2.1 3 then if eqI (J0 g.1.2.2.2.2.1) 0 then(J1b (x1.1,0,5,x1.2,0,0,0,(0,0,(false,[]),false,[]),[])).bind λe=>if neI e.2.2 0 then(Jv e.2.2).bind λw=>some (x1.1,w)else(J3e (e.1.2.2.2.2.1,x1.2)).bind λo=>some ((e.1.1,e.1.2.1,e.1.2.2.1,e.1.2.2.2.1,o,e.1.2.2.2.2.2),1,0,0,(false,[]),0)else(J3a x1).bind λj=>if Jo j.2 then(Jv 14).bind λv=>some (x1.1,v)else(J23 (x1.1,g.1,j.1)).bind λr=>some r else(J3a x1).bind λh=>if Jo h.2 then(Jv 14).bind λn=>some (x1.1,n)else(J23 (x1.1,g.1,h.1)).bind λk=>some k
def J5J(x1:J1F):Option (Js×Bool):=(JJ x1.1).bind λg=>if g then(J0L (x1.1.2.2.2.2.2.1,x1.2)).bind λe=>if geI e 0 then(idx x1.1.2.2.2.2.2.1 e).bind λh=>if eqI h.2.1 3 then(idx x1.1.2.2.2.2.2.1 e).bind λj=>some (j,true)else some ((0,0,0,0,[],[]),false)else some ((0,0,0,0,[],[]),false)else some ((0,0,0,0,[],[]),false)
def JiI(z2:Int×J9×(List Int)):Option ((Int×J9×(List Int))⊕(List Int)):=if ltI z2.1 (J0 z2.2.1.2.2.2.2.2.1)then(idx z2.2.1.2.2.2.2.2.1 z2.1).bind λg=>(J5J (z2.2.1,g.1)).bind λh=>if h.2 then(idx z2.2.1.2.2.2.2.2.1 z2.1).bind λj=>(Jz 8 z2.2.2 [j.1]).bind λe=>some (.inl (J1 .i64 z2.1 1,z2.2.1,e))else some (.inl (J1 .i64 z2.1 1,z2.2))else some (.inr z2.2.2)
def J9Y(x1:J9):Option (List Int):=Jf (JiI) (0,x1,[])
def Jkg(z2:(List Int)×JG):Option (((List Int)×JG)⊕Bool):=if ltI z2.2.2 (J0 z2.1)then(idx z2.1 z2.2.2).bind λe=>if eqI e z2.2.1 then some (.inr true)else some (.inl (z2.1,z2.2.1,J1 .i64 z2.2.2 1))else some (.inr false)
def Jb9(x1:J8T):Option (Bool):=Jf (Jkg) (x1.1,x1.2,0)
def Jac(x1:J5E):Option (J3G):=(J2c x1).bind λe=>if neI e 0 then some ([],e)else(Jb9 (x1.1.2.2.1,x1.2)).bind λg=>if g then some ([],11)else(idx x1.1.1 x1.2).bind λh=>some (h,0)
def JbK(z2:(List UInt8)×Int×Int×Int×Int):Option (((List UInt8)×Int×Int×Int×Int)⊕JG):=if ltI z2.2.2.2.2 z2.2.2.1 then(Jo5 z2.1 (J1 .i64 z2.2.1 z2.2.2.2.2)).bind λe=>(Jr8 .u64 (cvI .u64 e) (cvI .u64 (J32 .i64 8 z2.2.2.2.2))).bind λg=>some (.inl (z2.1,z2.2.1,z2.2.2.1,orI .u64 z2.2.2.2.1 g,J1 .i64 z2.2.2.2.2 1))else some (.inr (cvI .i64 z2.2.2.2.1,0))
def J0u(x1:J0x):Option (JG):=if ltI x1.2.2 1=false then if gtI x1.2.2 8=false then if ltI x1.2.1 0 then some (0,1)else if gtI x1.2.1 (J0 x1.1)=false then if ltI (JF .i64 (J0 x1.1) x1.2.1) x1.2.2 then some (0,5)else Jf (JbK) (x1.1,x1.2.1,x1.2.2,0,0)else some (0,5)else some (0,1)else some (0,1)
def J8R(x1:Unit):Option (List UInt8):=(J49 256).bind λe=>some e
def Je3(e:JNk):Option ((JNk)⊕(J8U)):=if ltI e.2.1 16 then(Jo5 e.1 (J1 .i64 12 (J32 .i64 e.2.1 13))).bind λg=>if eqI (cvI .i64 g) 255 then some (.inl (e.1,J1 .i64 e.2.1 1,e.2.2))else if gtI (cvI .i64 g) 12 then some (.inr ((0,0,Vector.replicate 16 (false,[])),4))else(J0B e.1 (some (J1 .i64 (J1 .i64 12 (J32 .i64 e.2.1 13)) 1)) (some (J1 .i64 (J1 .i64 (J1 .i64 12 (J32 .i64 e.2.1 13)) 1) (cvI .i64 g)))).bind λj=>(inb 16 e.2.1).bind λ_=>(vat e.2.2.2.2.2 (Int.toNat e.2.1)).bind λ_=>some (.inl (e.1,J1 .i64 e.2.1 1,e.2.2.1,e.2.2.2.1,e.2.2.2.2.1,Jom e.2.2.2.2.2 (Int.toNat e.2.1) (true,j)))else Option.map .inr ((J4q e.2.2.2).bind λh=>if neI h.2 0=false then if neS h.1 e.1 then some ((0,0,Vector.replicate 16 (false,[])),4)else some (e.2.2.2,0)else some ((0,0,Vector.replicate 16 (false,[])),4))
def J7v(x1:List UInt8):Option (J8U):=if neI (J0 x1) 256 then some ((0,0,Vector.replicate 16 (false,[])),2)else(J8R ()).bind λj=>if eqS x1 j then some ((0,0,Vector.replicate 16 (false,[])),7)else(J0B x1 none (some 8)).bind λh=>(J0B x1 (some 248) none).bind λo=>if neS h o then some ((0,0,Vector.replicate 16 (false,[])),27)else(J0u (x1,244,4)).bind λq=>(J0B x1 none (some 244)).bind λg=>(J5y g).bind λe=>if neI (cvI .u32 q.1) e then some ((0,0,Vector.replicate 16 (false,[])),3)else(J0u (x1,0,8)).bind λn=>(J0u (x1,8,4)).bind λk=>Jf (Je3) (x1,0,(0,0,Vector.replicate 16 (false,[])),k.1,n.1,Vector.replicate 16 (false,[]))
def J8k(x1:Int):Option (JU):=some (x1,0,Vector.replicate 16 (false,[]))
def J2R(x1:J3G):Option (J8U):=if ltI x1.2 0=false then if geI x1.2 64 then some ((0,0,Vector.replicate 16 (false,[])),1)else(J7v x1.1).bind λe=>if eqI e.2 7 then(J8k x1.2).bind λg=>some (g,0)else if eqI e.2 0 then if neI e.1.1 x1.2 then some ((0,0,Vector.replicate 16 (false,[])),6)else some e else some e else some ((0,0,Vector.replicate 16 (false,[])),1)
def J3Y(x1:JND):Option (J8U):=(J1u x1.1).bind λh=>if Jo h then some ((0,0,Vector.replicate 16 (false,[])),28)else if ltI x1.2.1 0=false then if geI x1.2.1 (J0 x1.1)=false then if ltI x1.2.2.1 0 then some ((0,0,Vector.replicate 16 (false,[])),1)else(J2R (x1.2.2.2,x1.2.1)).bind λe=>if neI e.2 0 then some ((0,0,Vector.replicate 16 (false,[])),e.2)else if gtI e.1.2.1 x1.2.2.1 then(idx x1.1 x1.2.1).bind λj=>if gtI e.1.2.1 j.1 then some ((0,0,Vector.replicate 16 (false,[])),9)else(idx x1.1 x1.2.1).bind λk=>if ltI e.1.2.1 k.1 then some ((0,0,Vector.replicate 16 (false,[])),8)else some (e.1,0)else(idx x1.1 x1.2.1).bind λg=>if ltI e.1.2.1 g.1 then some ((0,0,Vector.replicate 16 (false,[])),8)else some (e.1,0)else some ((0,0,Vector.replicate 16 (false,[])),1)else some ((0,0,Vector.replicate 16 (false,[])),1)
def J5u(x1:Jz2):Option (Int×Int×Int×(List J06)):=(J0g x1.1).bind λh=>if Jo h then some (0,0,15,[])else(J24 x1.2).bind λe=>if neI e 0 then some (0,0,e,[])else(J1A (x1.1,x1.2.1)).bind λj=>if geI j 0 then some (0,0,25,[])else if eqI (J0 x1.1.2.1) x1.1.1 then some (0,0,21,[])else(J1T 424 x1.1.2.1).bind λk=>(Jz 424 k [(x1.2,false,0,true)]).bind λg=>some (x1.1.1,x1.1.2.2,0,g)
def J94(e:JMA):Option ((JMA)⊕(J1F)):=if ltI e.1 (J0 e.2.1.2.2.2.2.2.2.2)then(idx e.2.1.2.2.2.2.2.2.2 e.1).bind λj=>if neI j.1 e.2.2.1.1 then(idx e.2.1.2.2.2.2.2.2.2 e.1).bind λg=>(Jz 24 e.2.2.2.2.2.2.2.2 [g]).bind λh=>some (.inl (J1 .i64 e.1 1,e.2.1,e.2.2.1,e.2.2.2.1,e.2.2.2.2.1,e.2.2.2.2.2.1,e.2.2.2.2.2.2.1,e.2.2.2.2.2.2.2.1,h))else some (.inl (J1 .i64 e.1 1,e.2))else some (.inr ((e.2.1.1,e.2.1.2.1,e.2.1.2.2.1,(e.2.2.2.2.2.1,e.2.2.2.2.1,e.2.2.2.2.2.2.1),e.2.1.2.2.2.2.1,e.2.1.2.2.2.2.2.1,e.2.1.2.2.2.2.2.2.1,e.2.2.2.2.2.2.2.2),0))
def J3A(x1:JJ2):Option (J1F):=(JJ x1.1).bind λn=>if Jo n then some ((0,0,(0,[],0),(0,[],0),([],[]),[],[],[]),15)else if ltI x1.2.1 0=false then if geI x1.2.1 x1.1.1 then some ((0,0,(0,[],0),(0,[],0),([],[]),[],[],[]),1)else(J3J (x1.1,x1.2.1)).bind λk=>if ltI x1.2.2.1 k then some ((0,0,(0,[],0),(0,[],0),([],[]),[],[],[]),8)else(J3J (x1.1,x1.2.1)).bind λo=>if gtI x1.2.2.1 o then some ((0,0,(0,[],0),(0,[],0),([],[]),[],[],[]),9)else(J5u (x1.1.2.2.2.1,x1.2)).bind λe=>if neI e.2.2.1 0 then some ((0,0,(0,[],0),(0,[],0),([],[]),[],[],[]),e.2.2.1)else(J42 (x1.1,x1.2.1)).bind λj=>if j.2 then(inb (List.length e.2.2.2) (JF .i64 (J0 e.2.2.2) 1)).bind λ_=>(lat e.2.2.2 (Int.toNat (JF .i64 (J0 e.2.2.2) 1))).bind λg=>(inb (List.length (J0t e.2.2.2 (Int.toNat (JF .i64 (J0 e.2.2.2) 1)) (g.1,true,g.2.2))) (JF .i64 (J0 (J0t e.2.2.2 (Int.toNat (JF .i64 (J0 e.2.2.2) 1)) (g.1,true,g.2.2))) 1)).bind λ_=>(lat (J0t e.2.2.2 (Int.toNat (JF .i64 (J0 e.2.2.2) 1)) (g.1,true,g.2.2)) (Int.toNat (JF .i64 (J0 (J0t e.2.2.2 (Int.toNat (JF .i64 (J0 e.2.2.2) 1)) (g.1,true,g.2.2))) 1))).bind λh=>Jf (J94) (0,x1.1,x1.2,(0,0,(0,[],0),(0,[],0),([],[]),[],[],[]),J0t (J0t e.2.2.2 (Int.toNat (JF .i64 (J0 e.2.2.2) 1)) (g.1,true,g.2.2)) (Int.toNat (JF .i64 (J0 (J0t e.2.2.2 (Int.toNat (JF .i64 (J0 e.2.2.2) 1)) (g.1,true,g.2.2))) 1)) (h.1,h.2.1,j.1.2.1,h.2.2.2),e.1,e.2.1,j.1,[])else some ((x1.1.1,x1.1.2.1,x1.1.2.2.1,(e.1,e.2.2.2,e.2.1),x1.1.2.2.2.2),0)else some ((0,0,(0,[],0),(0,[],0),([],[]),[],[],[]),1)
def J3X(x1:JKk):Option (J8U):=(J09 x1.2).bind λj=>if Jo j=false then(JM x1.2).bind λh=>if Jo h then some ((0,0,Vector.replicate 16 (false,[])),12)else(J24 x1.1).bind λg=>if neI g 0 then some ((0,0,Vector.replicate 16 (false,[])),g)else if neI x1.2.2.2.2.2.2.2.1.1 x1.1.1 then some ((0,0,Vector.replicate 16 (false,[])),6)else if neI x1.2.2.2.2.2.1 x1.1.2.1 then some ((0,0,Vector.replicate 16 (false,[])),13)else(J3n (x1.1,x1.2.2.2.2.2.2.2.1)).bind λe=>if neI e.2 0 then some ((0,0,Vector.replicate 16 (false,[])),e.2)else some ((e.1.1,x1.2.1,e.1.2.2),0)else some ((0,0,Vector.replicate 16 (false,[])),12)
def JbQ(x1:T_api_Entry×(List T_api_Entry)):Option (List T_api_Entry):=(Jz 128 [x1.1] x1.2).bind λe=>some e
def JhQ(z3:JNz):Option ((JNz)⊕(JCJ)):=if gtI z3.2.2.2.1 z3.2.1 then(J0I (z3.2.2.2.2,z3.2.2.2.1)).bind λe=>if neI e.2 0 then some (.inr ([],14))else(JM e.1).bind λg=>if Jo g=false then if neI e.1.2.2.2.2.2.2.1.1 z3.1 then some (.inr ([],13))else(JbQ (e.1,z3.2.2.1)).bind λh=>some (.inl (z3.1,z3.2.1,h,e.1.2.2.2.2.1,z3.2.2.2.2))else some (.inr ([],13))else Option.map .inr (if ltI z3.2.2.2.1 z3.2.1 then some ([],13)else some (z3.2.2.1,0))
def J9N(x1:J04×T_api_Row):Option (JCJ):=(J0f x1.1).bind λe=>if Jo e then some ([],26)else if ltI x1.2.1 0=false then if geI x1.2.1 64=false then if ltI x1.2.2.1 0=false then if ltI x1.2.2.2 0 then some ([],1)else Jf (JhQ) (x1.2.1,x1.2.2.2,[],x1.2.2.1,x1.1)else some ([],1)else some ([],1)else some ([],1)
def J8C(x1:Jr0):Option (JCJ):=(J0f x1.1).bind λg=>if Jo g then some ([],26)else(J24 x1.2.1).bind λe=>if neI e 0 then some ([],e)else if ltI x1.2.2 0 then some ([],1)else if geI x1.2.1.2.1 x1.2.2 then some ([],0)else(J9N (x1.1,x1.2.1.1,x1.2.2,x1.2.1.2.1)).bind λh=>some h
def JaZ(z3:JN4):Option ((JN4)⊕(JFB)):=if ltI z3.2.1 (J0 z3.1)then(idx z3.1 z3.2.1).bind λg=>(J3X (z3.2.2.2.1,g)).bind λe=>if neI e.2 0 then some (.inr ((0,0,Vector.replicate 16 (false,[])),0,e.2))else some (.inl (z3.1,J1 .i64 z3.2.1 1,z3.2.2.1,e.1,z3.2.2.2.2))else some (.inr (z3.2.2.2.1,J0 z3.1,0))
def J4M(x1:Jr0):Option (JFB):=(J8C x1).bind λe=>if neI e.2 0 then some ((0,0,Vector.replicate 16 (false,[])),0,e.2)else Jf (JaZ) (e.1,0,x1.1,x1.2.1,0,0,Vector.replicate 16 (false,[]))
def J4G(x1:Jr0):Option (J8U):=(J4M x1).bind λe=>some (e.1,e.2.2)
def J9V(x1:J6K):Option (J6K):=(J0g x1.1).bind λk=>if Jo k then some ((0,[],0),15)else(J1A x1).bind λg=>if ltI g 0 then some ((0,[],0),18)else(idx x1.1.2.1 g).bind λn=>if n.2.1 then some ((0,[],0),23)else(J0B x1.1.2.1 none (some g)).bind λo=>(J1T 424 o).bind λj=>(J0B x1.1.2.1 (some (J1 .i64 g 1)) none).bind λh=>(Jz 424 j h).bind λe=>if ltI g x1.1.2.2 then if geI (JF .i64 x1.1.2.2 1) (J0 e)then some ((x1.1.1,e,0),0)else some ((x1.1.1,e,JF .i64 x1.1.2.2 1),0)else if geI x1.1.2.2 (J0 e)then some ((x1.1.1,e,0),0)else some ((x1.1.1,e,x1.1.2.2),0)
def Jea(z3:JY×JY):Option ((JY×JY)⊕(Jz4)):=(idx z3.1.2.1 z3.1.2.2).bind λj=>if j.2.2.2 then(idx z3.1.2.1 z3.1.2.2).bind λg=>(J2d (z3.1,z3.1.2.2,g.1,g.2.1,g.2.2.1,false)).bind λe=>(Jjm (J1 .i64 e.2.2 1) (J0 e.2.1)).bind λh=>some (.inl ((e.1,e.2.1,h),z3.2))else Option.map .inr ((idx z3.1.2.1 z3.1.2.2).bind λk=>some (z3.1,k.1.1,0))
def J7L(x1:JY):Option (Jz4):=(J0g x1).bind λe=>if Jo e then some ((0,[],0),0,15)else if eqI (J0 x1.2.1) 0 then some ((0,[],0),0,18)else Jf (Jea) (x1,0,[],0)
def J4B(x1:J9):Option (J9×JU×Bool×Int):=(JJ x1).bind λk=>if Jo k then some ((0,0,(0,[],0),(0,[],0),([],[]),[],[],[]),(0,0,Vector.replicate 16 (false,[])),false,15)else if ltI (J0 x1.2.2.2.1.2.1) x1.2.2.2.1.1 then some (x1,(0,0,Vector.replicate 16 (false,[])),false,0)else(J7L x1.2.2.2.1).bind λe=>(J1k (e.1,e.2.1)).bind λn=>(idx e.1.2.1 n).bind λg=>if Jo g.2.1 then(J9V (e.1,e.2.1)).bind λj=>some ((x1.1,x1.2.1,x1.2.2.1,j.1,x1.2.2.2.2),(0,0,Vector.replicate 16 (false,[])),false,0)else(J2o ((x1.1,x1.2.1,x1.2.2.1,e.1,x1.2.2.2.2),g.1.2.1)).bind λh=>some (h,g.1,true,0)
def JaW(z2:Ju×Ju):Option ((Ju×Ju)⊕(J3r)):=(J4B z2.1.1).bind λe=>if neI e.2.2.2 0 then some (.inr (((0,0,(0,[],0),(0,[],0),([],[]),[],[],[]),[],0,[],false,[]),e.2.2.2))else if Jo e.2.2.1 then some (.inr ((e.1,z2.1.2),0))else(J3k (z2.1,e.1,e.2.1)).bind λg=>if neI g.2 0 then some (.inr (((0,0,(0,[],0),(0,[],0),([],[]),[],[],[]),[],0,[],false,[]),g.2))else some (.inl (g.1,z2.2))
def J4E(x1:Ju):Option (J3r):=Jf (JaW) (x1,(0,0,(0,[],0),(0,[],0),([],[]),[],[],[]),[],0,[],false,[])
def J27(x1:J3r):Option (J3r):=(JJ x1.1.1).bind λq=>if Jo q then some (((0,0,(0,[],0),(0,[],0),([],[]),[],[],[]),[],0,[],false,[]),15)else if ltI x1.2 0=false then if geI x1.2 x1.1.1.1 then some (((0,0,(0,[],0),(0,[],0),([],[]),[],[],[]),[],0,[],false,[]),1)else(J1k (x1.1.1.2.2.2.1,x1.2)).bind λo=>if geI o 0 then some (x1.1,0)else(J4E x1.1).bind λe=>if neI e.2 0 then some (((0,0,(0,[],0),(0,[],0),([],[]),[],[],[]),[],0,[],false,[]),e.2)else(Jac (e.1.2,x1.2)).bind λk=>if neI k.2 0 then some (((0,0,(0,[],0),(0,[],0),([],[]),[],[],[]),[],0,[],false,[]),k.2)else(J3J (e.1.1,x1.2)).bind λn=>(J3Y (e.1.1.2.2.2.2.2.2.1,x1.2,n,k.1)).bind λg=>if neI g.2 0 then some (((0,0,(0,[],0),(0,[],0),([],[]),[],[],[]),[],0,[],false,[]),g.2)else(J4G (e.1.1.2.2.1,g.1,n)).bind λj=>if neI j.2 0 then some (((0,0,(0,[],0),(0,[],0),([],[]),[],[],[]),[],0,[],false,[]),j.2)else(J3A (e.1.1,j.1)).bind λh=>if neI h.2 0 then some (((0,0,(0,[],0),(0,[],0),([],[]),[],[],[]),[],0,[],false,[]),h.2)else some ((h.1,e.1.2),0)else some (((0,0,(0,[],0),(0,[],0),([],[]),[],[],[]),[],0,[],false,[]),1)
def JgT(e:JNF):Option ((JNF)⊕(Ju×Bool×Int)):=(idx e.1 0).bind λj=>(J1a (e.2.1.1,j)).bind λg=>if eqI g.2.1 5 then some (.inr (((0,0,(0,[],0),(0,[],0),([],[]),[],[],[]),[],0,[],false,[]),false,g.2.2.2.2.2))else if neI g.2.1 3 then some (.inr ((g.1,e.2.1.2),true,0))else(J27 (e.2.1,g.2.2.2.1)).bind λh=>if neI h.2 0 then some (.inr (((0,0,(0,[],0),(0,[],0),([],[]),[],[],[]),[],0,[],false,[]),false,h.2))else some (.inl (e.1,h.1,e.2.2))
def Ja5(x1:Ju):Option (Ju×Bool×Int):=(JJ x1.1).bind λj=>if Jo j then some (((0,0,(0,[],0),(0,[],0),([],[]),[],[],[]),[],0,[],false,[]),false,15)else if gtI (J0 x1.1.2.2.2.2.2.2.2) 0 then(idx x1.1.2.2.2.2.2.2.2 0).bind λh=>(J27 (x1,h.1)).bind λe=>some (e.1,eqI e.2 0,e.2)else(J9Y x1.1).bind λg=>if eqI (J0 g) 0 then some (x1,false,0)else Jf (JgT) (g,x1,(0,0,(0,[],0),(0,[],0),([],[]),[],[],[]),[],0,[],false,[])
def J2v(x1:Int):Option (J0H):=if neI x1 0 then(Jv x1).bind λe=>some e else some (1,0,0,(false,[]),0)
def Jcg(z3:JGl):Option ((JGl)⊕(T_api_Grant×Bool)):=if ltI z3.2.1 (J0 z3.2.2.1.2)then(idx z3.2.2.1.2 z3.2.1).bind λe=>if eqI e.1 z3.1 then(idx z3.2.2.1.2 z3.2.1).bind λg=>some (.inr (g,true))else some (.inl (z3.1,J1 .i64 z3.2.1 1,z3.2.2))else some (.inr ((0,(0,0),0),false))
def J3b(x1:J8J):Option (T_api_Grant×Bool):=(J1i x1.1).bind λe=>if e then Jf (Jcg) (x1.2,0,x1.1,0,(0,0),0)else some ((0,(0,0),0),false)
def JtC(z2:JGe):Option ((JGe)⊕(List Int)):=if ltI z2.2.2.2.1 (J0 z2.1)then if Jo z2.2.2.1 then(idx z2.1 z2.2.2.2.1).bind λr=>if geI r z2.2.1 then(Jz 8 z2.2.2.2.2 [z2.2.1]).bind λn=>(idx z2.1 z2.2.2.2.1).bind λx=>if neI x z2.2.1 then(idx z2.1 z2.2.2.2.1).bind λq=>(Jz 8 n [q]).bind λo=>some (.inl (z2.1,z2.2.1,true,J1 .i64 z2.2.2.2.1 1,o))else some (.inl (z2.1,z2.2.1,true,J1 .i64 z2.2.2.2.1 1,n))else(idx z2.1 z2.2.2.2.1).bind λw=>if neI w z2.2.1 then(idx z2.1 z2.2.2.2.1).bind λv=>(Jz 8 z2.2.2.2.2 [v]).bind λe=>some (.inl (z2.1,z2.2.1,z2.2.2.1,J1 .i64 z2.2.2.2.1 1,e))else some (.inl (z2.1,z2.2.1,z2.2.2.1,J1 .i64 z2.2.2.2.1 1,z2.2.2.2.2))else(idx z2.1 z2.2.2.2.1).bind λj=>if neI j z2.2.1 then(idx z2.1 z2.2.2.2.1).bind λh=>(Jz 8 z2.2.2.2.2 [h]).bind λk=>some (.inl (z2.1,z2.2.1,z2.2.2.1,J1 .i64 z2.2.2.2.1 1,k))else some (.inl (z2.1,z2.2.1,z2.2.2.1,J1 .i64 z2.2.2.2.1 1,z2.2.2.2.2))else Option.map .inr (if Jo z2.2.2.1 then(Jz 8 z2.2.2.2.2 [z2.2.1]).bind λg=>some g else some z2.2.2.2.2)
def J5Q(x1:J8T):Option (List Int):=Jf (JtC) (x1.1,x1.2,false,0,[])
def Jll(e:JFH):Option ((JFH)⊕(List Int)):=if ltI e.2.2.1 (J0 e.2.2.2.1.2)then(idx e.2.2.2.1.2 e.2.2.1).bind λn=>if neI n.1 e.1 then(idx e.2.2.2.1.2 e.2.2.1).bind λg=>(J1Z (g,e.2.2.2.2)).bind λj=>if j then(idx e.2.2.2.1.2 e.2.2.1).bind λh=>(J5Q (e.2.1,h.1)).bind λk=>some (.inl (e.1,k,J1 .i64 e.2.2.1 1,e.2.2.2))else some (.inl (e.1,e.2.1,J1 .i64 e.2.2.1 1,e.2.2.2))else some (.inr e.2.1)else some (.inr e.2.1)
def Jk6(z3:JFH):Option ((JFH)⊕(List Int)):=if ltI z3.2.2.1 (J0 z3.2.2.2.1.1)then(idx z3.2.2.2.1.1 z3.2.2.1).bind λh=>(J1Z (h,z3.2.2.2.2)).bind λj=>if j then(idx z3.2.2.2.1.1 z3.2.2.1).bind λg=>(J5Q (z3.2.1,g.1)).bind λe=>some (.inl (z3.1,e,J1 .i64 z3.2.2.1 1,z3.2.2.2))else some (.inl (z3.1,z3.2.1,J1 .i64 z3.2.2.1 1,z3.2.2.2))else Option.map .inr (Jf (Jll) (z3.1,z3.2.1,0,z3.2.2.2))
def J6q(x1:J8J):Option (List Int):=(J3b x1).bind λe=>if Jo e.2 then some []else Jf (Jk6) (x1.2,[],0,x1.1,e.1)
def Jce(e:JMh):Option ((JMh)⊕(Int×JG×Bool)):=if ltI e.2.2.1 e.2.1 then(idx e.1 e.2.2.1).bind λg=>(J5J (e.2.2.2.1,g)).bind λh=>if h.2 then some (.inr (g,e.2.2.2.2.2.2.1,true))else some (.inl (e.1,e.2.1,J1 .i64 e.2.2.1 1,e.2.2.2))else some (.inr (0,(0,0),false))
def J6H(x1:J1F):Option (Int×JG×Bool):=(J3b (x1.1.2.2.2.2.1,x1.2)).bind λg=>if Jo g.2 then some (0,(0,0),false)else(J6q (x1.1.2.2.2.2.1,x1.2)).bind λe=>Jf (Jce) (e,J0 e,0,x1.1,(0,0),g.1)
def Jg0(z3:Int×JZ×T_api_Grant):Option ((Int×JZ×T_api_Grant)⊕Int):=if ltI z3.1 (J0 z3.2.1.2)then(idx z3.2.1.2 z3.1).bind λe=>if eqT J07 e.2.1 z3.2.2.2.1 then(J2K (z3.2.1,e.1,e.2.1)).bind λg=>if eqI g 0 then some (.inr z3.1)else some (.inl (J1 .i64 z3.1 1,z3.2))else some (.inl (J1 .i64 z3.1 1,z3.2))else some (.inr (J0 z3.2.1.2))
def J6l(x1:JFz):Option (Int):=(J2K (x1.1,x1.2.1,x1.2.2.1)).bind λe=>if eqI e 0 then some (J0 x1.1.2)else Jf (Jg0) (0,x1)
def J6B(x1:JFz):Option (JZ×Bool×Int):=(J1i x1.1).bind λG=>if Jo G then some (([],[]),false,17)else(J50 x1.2).bind λC=>if Jo C then some (([],[]),false,1)else(J3b (x1.1,x1.2.1)).bind λe=>if e.2 then if Jo (eqT J8 e.1 x1.2)then some (([],[]),false,15)else if e.2 then some (x1.1,false,0)else(J2K (x1.1,x1.2.1,x1.2.2.1)).bind λE=>if geI E x1.2.2.2 then some (x1.1,true,0)else if eqI (J1 .i64 (J0 x1.1.1) (J0 x1.1.2)) 1024 then some (([],[]),false,21)else(J6l x1).bind λv=>(J0B x1.1.2 none (some v)).bind λB=>(J1T 32 B).bind λD=>(Jz 32 D [x1.2]).bind λF=>(J0B x1.1.2 (some v) none).bind λk=>(Jz 32 F k).bind λA=>(J2U (x1.1.1,A)).bind λj=>(J2K (j,x1.2.1,x1.2.2.1)).bind λn=>some (j,geI n x1.2.2.2,0)else if e.2 then some (x1.1,false,0)else(J2K (x1.1,x1.2.1,x1.2.2.1)).bind λx=>if geI x x1.2.2.2 then some (x1.1,true,0)else if eqI (J1 .i64 (J0 x1.1.1) (J0 x1.1.2)) 1024 then some (([],[]),false,21)else(J6l x1).bind λh=>(J0B x1.1.2 none (some h)).bind λy=>(J1T 32 y).bind λo=>(Jz 32 o [x1.2]).bind λq=>(J0B x1.1.2 (some h) none).bind λw=>(Jz 32 q w).bind λr=>(J2U (x1.1.1,r)).bind λg=>(J2K (g,x1.2.1,x1.2.2.1)).bind λz=>some (g,geI z x1.2.2.2,0)
def Jc5(z3:(List Int)×Int×JZ):Option (((List Int)×Int×JZ)⊕(List Int)):=if ltI z3.2.1 (J0 z3.2.2.2)then(idx z3.2.2.2 z3.2.1).bind λe=>(J5Q (z3.1,e.1)).bind λg=>some (.inl (g,J1 .i64 z3.2.1 1,z3.2.2))else some (.inr z3.1)
def J6P(x1:JZ):Option (List Int):=(J1i x1).bind λe=>if e then Jf (Jc5) ([],0,x1)else some []
def Jdj(e:JMR):Option ((JMR)⊕(List Int)):=if ltI e.2.2.2.1 e.2.2.1 then(idx e.2.1 e.2.2.2.1).bind λh=>(idx e.1 0).bind λg=>if eqI h g then some (.inr e.1)else some (.inl (e.1,e.2.1,e.2.2.1,J1 .i64 e.2.2.2.1 1,e.2.2.2.2))else some (.inr [])
def Jdf(h:(JCa)->Option (List Int))(e:JJi):Option ((JJi)⊕((JHt)⊕(List Int))):=if ltI e.2.2.2.2.2.2.2.2.2.1 e.2.2.2.2.2.2.2.2.1 then(idx e.2.2.2.2.2.2.2.1 e.2.2.2.2.2.2.2.2.2.1).bind λj=>if e.2.2.2.1=false then some (.inl (e.1,e.2.1,e.2.2.1,eqI e.2.2.1 j,e.2.2.2.2.1,e.2.2.2.2.2.1,e.2.2.2.2.2.2.1,e.2.2.2.2.2.2.2.1,e.2.2.2.2.2.2.2.2.1,J1 .i64 e.2.2.2.2.2.2.2.2.2.1 1,e.2.2.2.2.2.2.2.2.2.2))else some (.inl (e.1,e.2.1,e.2.2.1,true,e.2.2.2.2.1,e.2.2.2.2.2.1,e.2.2.2.2.2.2.1,e.2.2.2.2.2.2.2.1,e.2.2.2.2.2.2.2.2.1,J1 .i64 e.2.2.2.2.2.2.2.2.2.1 1,e.2.2.2.2.2.2.2.2.2.2))else Option.map .inr (if e.2.2.2.1 then some (.inl (e.1,e.2.1,e.2.2.2.2.1,e.2.2.2.2.2.1,J1 .i64 e.2.2.2.2.2.2.1 1,e.2.2.2.2.2.2.2.2.2.2))else(J1T 8 e.1).bind λn=>(Jz 8 n [e.2.2.1]).bind λk=>(h (e.2.2.2.2.2.2.2.2.2.2,k,e.2.1)).bind λg=>if gtI (J0 g) 0 then some (.inr g)else some (.inl (e.1,e.2.1,e.2.2.2.2.1,e.2.2.2.2.2.1,J1 .i64 e.2.2.2.2.2.2.1 1,e.2.2.2.2.2.2.2.2.2.2)))
def Jec(g:(JCa)->Option (List Int))(e:JHt):Option ((JHt)⊕(List Int)):=if ltI e.2.2.2.2.1 e.2.2.2.1 then(idx e.2.2.1 e.2.2.2.2.1).bind λh=>Jf (Jdf g) (e.1,e.2.1,h,false,e.2.2.1,e.2.2.2.1,e.2.2.2.2.1,e.1,J0 e.1,0,e.2.2.2.2.2)else some (.inr [])
def J4u(g:(JCa)->Option (List Int))(x1:JCa):Option (List Int):=(idx x1.2.1 (JF .i64 (J0 x1.2.1) 1)).bind λh=>(J6q (x1.1,h)).bind λe=>if eqI (J0 x1.2.1) x1.2.2 then Jf (Jdj) (x1.2.1,e,J0 e,0,x1.1)else Jf (Jec g) (x1.2.1,x1.2.2,e,J0 e,0,x1.1)
def JhG:(JCa)->Option (List Int):=Jgh J4u 1100
def Jez(z2:Jbh):Option ((Jbh)⊕(List Int)):=(J6P z2.2.2).bind λg=>if leI z2.2.1 (J0 g)then(JhG (z2.2.2,[z2.1],z2.2.1)).bind λe=>if gtI (J0 e) 0 then some (.inr e)else some (.inl (z2.1,J1 .i64 z2.2.1 1,z2.2.2))else some (.inr [])
def J8I(x1:J8J):Option (List Int):=Jf (Jez) (x1.2,1,x1.1)
def J2W(x1:J2g):Option (JG):=(J0W x1.1).bind λg=>if Jo g then some (0,15)else(J1l x1).bind λe=>if ltI e 0 then some (0,16)else(idx x1.1 e).bind λh=>if neI h.2.1 1 then some (0,15)else some (e,0)
def J7g(x1:JtV):Option (J2g):=(J2W (x1.1,x1.2.1)).bind λg=>if neI g.2 0 then some ([],g.2)else(idx x1.1 g.1).bind λe=>if ltI x1.2.2 0=false then if geI x1.2.2 (J0 e.2.2.2.2.2)then some ([],19)else(J0B e.2.2.2.2.2 none (some (J1 .i64 x1.2.2 1))).bind λn=>(J1T 8 n).bind λh=>(inb (List.length h) x1.2.2).bind λ_=>(lat h (Int.toNat x1.2.2)).bind λj=>(J2a (e.1,2,e.2.2.1,j,e.2.2.2.2.1,h)).bind λo=>(J2G (x1.1,g.1,o)).bind λk=>some (k,0)else some ([],19)
def J7b(x1:J2g):Option (J2g):=(J2W x1).bind λg=>if neI g.2 0 then some ([],g.2)else(idx x1.1 g.1).bind λe=>if eqI (J0 e.2.2.2.2.2) 8 then some ([],21)else(J1T 8 e.2.2.2.2.2).bind λj=>(Jz 8 j [e.2.2.1]).bind λk=>(J2G (x1.1,g.1,e.1,e.2.1,e.2.2.1,e.2.2.2.1,e.2.2.2.2.1,k)).bind λh=>some (h,0)
def J8z(x1:List Int):Option (Int):=if eqI (J0 x1) 0 then some 0 else(idx x1 0).bind λe=>some e
def Jbm(x1:J1F):Option (Int):=(J6q (x1.1.2.2.2.2.1,x1.2)).bind λg=>(J8z g).bind λe=>some e
def Jbb(x1:J6K):Option (JY):=(J1k x1).bind λg=>if ltI g 0 then some x1.1 else(idx x1.1.2.1 g).bind λe=>(J2d (x1.1,g,e.1,e.2.1,e.2.2.1,true)).bind λh=>some h
def J3y(x1:Je2):Option (J67):=(J2J (x1.1.2.2.2.1,x1.2.2.2.1)).bind λg=>if Jo g.2 then some (x1.1,3,0,x1.2.2.2.1,(false,[]),0)else if eqI x1.2.2.1 1 then(Jbb (x1.1.2.2.2.1,x1.2.2.2.1)).bind λn=>(inb 16 x1.2.2.2.2.1).bind λ_=>(vat g.1.2.2 (Int.toNat x1.2.2.2.2.1)).bind λq=>some ((x1.1.1,x1.1.2.1,x1.1.2.2.1,n,x1.1.2.2.2.2),1,0,0,q,0)else(inb 16 x1.2.2.2.2.1).bind λ_=>(vat g.1.2.2 (Int.toNat x1.2.2.2.2.1)).bind λj=>if eqI x1.2.2.1 2 then(J6r (x1.1,0,1,x1.2.1,0,0,0,(x1.2.2.2.1,x1.2.2.2.2.1,j,true,x1.2.2.2.2.2),[])).bind λh=>if neI h.2 0 then(Jv h.2).bind λo=>some (x1.1,o)else some (h.1,1,0,0,(false,[]),0)else(J6r (x1.1,0,1,x1.2.1,0,0,0,(x1.2.2.2.1,x1.2.2.2.2.1,j,false,[]),[])).bind λe=>if neI e.2 0 then(Jv e.2).bind λk=>some (x1.1,k)else some (e.1,1,0,0,(false,[]),0)
def J3C(x1:J1F):Option (J67):=(J0L (x1.1.2.2.2.2.2.1,x1.2)).bind λk=>(idx x1.1.2.2.2.2.2.1 k).bind λj=>if eqI j.2.2.1 0 then(J4t (x1.1.2.2.2.2.2.1,x1.2)).bind λo=>(J3e (x1.1.2.2.2.2.1,x1.2)).bind λq=>some ((x1.1.1,x1.1.2.1,x1.1.2.2.1,x1.1.2.2.2.1,q,o,x1.1.2.2.2.2.2.2),1,0,0,(false,[]),0)else(J1b (x1.1,0,3,x1.2,0,0,0,(0,0,(false,[]),false,[]),[])).bind λg=>if neI g.2.2 0 then(Jv g.2.2).bind λh=>some (x1.1,h)else(J2o (g.1,g.2.1)).bind λe=>(J3e (e.2.2.2.2.1,x1.2)).bind λn=>some ((e.1,e.2.1,e.2.2.1,e.2.2.2.1,n,e.2.2.2.2.2),1,0,0,(false,[]),0)
def J7M(x1:J8J):Option (JZ):=(J1i x1.1).bind λg=>if Jo g then some x1.1 else(J4O (x1.1.2,x1.2,false,0,0)).bind λe=>(J2U (x1.1.1,e)).bind λh=>some h
def Jcb(e:JMU):Option ((JMU)⊕Bool):=if ltI e.1 (J0 e.2.2.2.2.2.2.2.1)then(idx e.2.2.2.2.2.2.2.1 e.1).bind λh=>(J0I (e.2.1.2.2.1,h)).bind λg=>if eqI g.2 0 then if eqI g.1.2.2.2.2.2.2.1.1 e.2.2.1.1 then if eqI g.1.2.2.2.2.2.2.1.2.1 e.2.2.1.2 then some (.inr true)else some (.inl (J1 .i64 e.1 1,e.2))else some (.inl (J1 .i64 e.1 1,e.2))else some (.inl (J1 .i64 e.1 1,e.2))else some (.inr false)
def J6F(x1:Jvj):Option (Bool):=(J0L (x1.1.2.2.2.2.2.1,x1.2.1)).bind λg=>(idx x1.1.2.2.2.2.2.1 g).bind λe=>Jf (Jcb) (0,x1.1,x1.2.2,e)
def Jal(e:JN8):Option ((JN8)⊕(J67)):=if ltI e.2.2.2.1 (J0 e.2.2.1)then(idx e.2.2.1 e.2.2.2.1).bind λg=>if eqI g.1 e.1 then(idx e.2.2.1 e.2.2.2.1).bind λk=>(J6F (e.2.2.2.2.2.2.2,e.1,k.2.1)).bind λj=>if Jo j then(idx e.2.2.1 e.2.2.2.1).bind λn=>(J79 (e.2.2.2.2.2.2.2.2.2.2.2.1,e.1,n.2.1)).bind λh=>some (.inl (e.1,e.2.1,e.2.2.1,J1 .i64 e.2.2.2.1 1,e.2.2.2.2.1,e.2.2.2.2.2.1,e.2.2.2.2.2.2.1,e.2.2.2.2.2.2.2.1,e.2.2.2.2.2.2.2.2.1,e.2.2.2.2.2.2.2.2.2.1,e.2.2.2.2.2.2.2.2.2.2.1,h,e.2.2.2.2.2.2.2.2.2.2.2.2))else some (.inl (e.1,e.2.1,e.2.2.1,J1 .i64 e.2.2.2.1 1,e.2.2.2.2))else some (.inl (e.1,e.2.1,e.2.2.1,J1 .i64 e.2.2.2.1 1,e.2.2.2.2))else some (.inr (e.2.2.2.2.2.2.2,e.2.1,0,0,(false,[]),0))
def J3o(x1:Jdc):Option (J67):=(J7M (x1.1.2.2.2.2.1,x1.2.1)).bind λg=>(J0L (x1.1.2.2.2.2.2.1,x1.2.1)).bind λj=>(idx x1.1.2.2.2.2.2.1 j).bind λn=>if eqI n.2.2.1 0 then(J4t (x1.1.2.2.2.2.2.1,x1.2.1)).bind λo=>(J3e (g,x1.2.1)).bind λh=>some ((x1.1.1,x1.1.2.1,x1.1.2.2.1,x1.1.2.2.2.1,h,o,x1.1.2.2.2.2.2.2),x1.2.2,0,0,(false,[]),0)else(J1b ((x1.1.1,x1.1.2.1,x1.1.2.2.1,x1.1.2.2.2.1,g,x1.1.2.2.2.2.2),0,4,x1.2.1,0,0,0,(0,0,(false,[]),false,[]),[])).bind λe=>if neI e.2.2 0 then(Jv e.2.2).bind λk=>some (x1.1,k)else Jf (Jal) (x1.2.1,x1.2.2,e.1.2.2.2.2.1.1,0,x1.1,(0,0,(0,[],0),(0,[],0),([],[]),[],[],[]),(0,0,0,(false,[]),0),e.1)
def J6Z(x1:Int×J36):Option (T_api_Grant×Bool):=if eqI x1.2.1 1 then some ((x1.1,(x1.2.2.1,x1.2.2.2.1),1),true)else if eqI x1.2.1 2 then some ((x1.1,(x1.2.2.1,x1.2.2.2.1),2),true)else if eqI x1.2.1 3 then some ((x1.1,(x1.2.2.1,x1.2.2.2.1),2),true)else some ((0,(0,0),0),false)
def J4s(x1:J9×J36):Option (Int):=if eqI x1.2.1 1 then if ltI x1.2.2.1 0=false then if geI x1.2.2.1 x1.1.1=false then if ltI x1.2.2.2.1 0=false then if geI x1.2.2.2.1 16 then some 1 else if eqI x1.2.1 2 then if Jo (eqT J0m x1.2 x1.2)then some 1 else if gtI (J0 x1.2.2.2.2) 12 then some 22 else some 0 else if Jo (eqT J0m x1.2 (x1.2.1,x1.2.2.1,x1.2.2.2.1,[]))then some 1 else if gtI (J0 x1.2.2.2.2) 12 then some 22 else some 0 else some 1 else some 1 else some 1 else if eqI x1.2.1 2 then if ltI x1.2.2.1 0=false then if geI x1.2.2.1 x1.1.1=false then if ltI x1.2.2.2.1 0=false then if geI x1.2.2.2.1 16 then some 1 else if eqI x1.2.1 2 then if Jo (eqT J0m x1.2 x1.2)then some 1 else if gtI (J0 x1.2.2.2.2) 12 then some 22 else some 0 else if Jo (eqT J0m x1.2 (x1.2.1,x1.2.2.1,x1.2.2.2.1,[]))then some 1 else if gtI (J0 x1.2.2.2.2) 12 then some 22 else some 0 else some 1 else some 1 else some 1 else if eqI x1.2.1 3 then if ltI x1.2.2.1 0=false then if geI x1.2.2.1 x1.1.1=false then if ltI x1.2.2.2.1 0=false then if geI x1.2.2.2.1 16 then some 1 else if eqI x1.2.1 2 then if Jo (eqT J0m x1.2 x1.2)then some 1 else if gtI (J0 x1.2.2.2.2) 12 then some 22 else some 0 else if Jo (eqT J0m x1.2 (x1.2.1,x1.2.2.1,x1.2.2.2.1,[]))then some 1 else if gtI (J0 x1.2.2.2.2) 12 then some 22 else some 0 else some 1 else some 1 else some 1 else if eqI x1.2.1 7 then if ltI x1.2.2.2.1 0=false then if geI x1.2.2.2.1 8 then some 1 else if Jo (eqT J0m x1.2 (x1.2.1,0,x1.2.2.2.1,[]))then some 1 else if gtI (J0 x1.2.2.2.2) 12 then some 22 else some 0 else some 1 else if eqI x1.2.1 4 then if Jo (eqT J0m x1.2 (x1.2.1,0,0,[]))then some 1 else if gtI (J0 x1.2.2.2.2) 12 then some 22 else some 0 else if eqI x1.2.1 5 then if Jo (eqT J0m x1.2 (x1.2.1,0,0,[]))then some 1 else if gtI (J0 x1.2.2.2.2) 12 then some 22 else some 0 else if eqI x1.2.1 6 then if Jo (eqT J0m x1.2 (x1.2.1,0,0,[]))then some 1 else if gtI (J0 x1.2.2.2.2) 12 then some 22 else some 0 else some 1
def J2h(x1:Je2):Option (Int):=(JJ x1.1).bind λk=>if Jo k then some 15 else(J0L (x1.1.2.2.2.2.2.1,x1.2.1)).bind λh=>if ltI h 0 then some 16 else(idx x1.1.2.2.2.2.2.1 h).bind λn=>if neI n.2.1 1 then some 15 else(J4s (x1.1,x1.2.2)).bind λj=>if neI j 0 then some j else(J3b (x1.1.2.2.2.2.1,x1.2.1)).bind λg=>(J6Z x1.2).bind λe=>if g.2 then if neI x1.2.2.1 5 then if Jo e.2=false then if Jo (eqT J8 e.1 g.1)then some 15 else some 0 else some 15 else some 0 else some 0
def J65(x1:Je2):Option (J67):=(J2h x1).bind λz=>if neI z 0 then(Jv z).bind λA=>some (x1.1,A)else if eqI x1.2.2.1 4 then(J3C (x1.1,x1.2.1)).bind λE=>some E else if eqI x1.2.2.1 5 then(J3o (x1.1,x1.2.1,1)).bind λC=>some C else if eqI x1.2.2.1 6 then(J7b (x1.1.2.2.2.2.2.1,x1.2.1)).bind λo=>if eqI x1.2.2.1 7 then(J7g (x1.1.2.2.2.2.2.1,x1.2.1,x1.2.2.2.2.1)).bind λn=>if neI n.2 0 then(Jv n.2).bind λB=>some (x1.1,B)else some ((x1.1.1,x1.1.2.1,x1.1.2.2.1,x1.1.2.2.2.1,x1.1.2.2.2.2.1,n.1,x1.1.2.2.2.2.2.2),1,0,0,(false,[]),0)else if neI o.2 0 then(Jv o.2).bind λD=>some (x1.1,D)else some ((x1.1.1,x1.1.2.1,x1.1.2.2.1,x1.1.2.2.2.1,x1.1.2.2.2.2.1,o.1,x1.1.2.2.2.2.2.2),1,0,0,(false,[]),0)else if eqI x1.2.2.1 7 then(J7b (x1.1.2.2.2.2.2.1,x1.2.1)).bind λg=>if eqI x1.2.2.1 7 then(J7g (x1.1.2.2.2.2.2.1,x1.2.1,x1.2.2.2.2.1)).bind λk=>if neI k.2 0 then(Jv k.2).bind λy=>some (x1.1,y)else some ((x1.1.1,x1.1.2.1,x1.1.2.2.1,x1.1.2.2.2.1,x1.1.2.2.2.2.1,k.1,x1.1.2.2.2.2.2.2),1,0,0,(false,[]),0)else if neI g.2 0 then(Jv g.2).bind λq=>some (x1.1,q)else some ((x1.1.1,x1.1.2.1,x1.1.2.2.1,x1.1.2.2.2.1,x1.1.2.2.2.2.1,g.1,x1.1.2.2.2.2.2.2),1,0,0,(false,[]),0)else(J6Z x1.2).bind λw=>(J6B (x1.1.2.2.2.2.1,w.1)).bind λe=>if neI e.2.2 0 then(Jv e.2.2).bind λx=>some (x1.1,x)else if e.2.1 then(J3y ((x1.1.1,x1.1.2.1,x1.1.2.2.1,x1.1.2.2.2.1,e.1,x1.1.2.2.2.2.2),x1.2)).bind λh=>if eqI h.2.1 5 then some (x1.1,h.2)else some h else(J8I (e.1,x1.2.1)).bind λr=>if gtI (J0 r) 0 then(J3o ((x1.1.1,x1.1.2.1,x1.1.2.2.1,x1.1.2.2.2.1,e.1,x1.1.2.2.2.2.2),x1.2.1,4)).bind λj=>if eqI j.2.1 5 then some (x1.1,j.2)else some j else(Jbm ((x1.1.1,x1.1.2.1,x1.1.2.2.1,x1.1.2.2.2.1,e.1,x1.1.2.2.2.2.2),x1.2.1)).bind λv=>some ((x1.1.1,x1.1.2.1,x1.1.2.2.1,x1.1.2.2.2.1,e.1,x1.1.2.2.2.2.2),2,v,0,(false,[]),0)
def J2C(x1:J3r):Option (Bool):=(J0L (x1.1.1.2.2.2.2.2.1,x1.2)).bind λe=>if geI e 0 then(idx x1.1.1.2.2.2.2.2.1 e).bind λg=>some (neI g.2.1 1)else some false
def JbH(e:Int×Ju×Ju):Option ((Int×Ju×Ju)⊕(J3r)):=(J2C (e.2.1,e.1)).bind λj=>if j then(J1a (e.2.1.1,e.1)).bind λg=>if eqI g.2.1 5 then some (.inr (((0,0,(0,[],0),(0,[],0),([],[]),[],[],[]),[],0,[],false,[]),g.2.2.2.2.2))else if eqI g.2.1 3 then(J27 (e.2.1,g.2.2.2.1)).bind λh=>if neI h.2 0 then some (.inr (((0,0,(0,[],0),(0,[],0),([],[]),[],[],[]),[],0,[],false,[]),h.2))else some (.inl (e.1,h.1,e.2.2))else some (.inl (e.1,(g.1,e.2.1.2),e.2.2))else some (.inr (e.2.1,0))
def J2S(x1:J3r):Option (J3r):=(JJ x1.1.1).bind λg=>if Jo g then some (((0,0,(0,[],0),(0,[],0),([],[]),[],[],[]),[],0,[],false,[]),15)else(J0L (x1.1.1.2.2.2.2.2.1,x1.2)).bind λe=>if ltI e 0 then some (((0,0,(0,[],0),(0,[],0),([],[]),[],[],[]),[],0,[],false,[]),16)else Jf (JbH) (x1.2,x1.1,(0,0,(0,[],0),(0,[],0),([],[]),[],[],[]),[],0,[],false,[])
def Jmw(z2:TQ27):Option ((TQ27)⊕(TQ80)):=(J65 (z2.2.1.1,z2.1,z2.2.2.1)).bind λe=>if eqI e.2.1 3 then(J27 ((e.1,z2.2.1.2),e.2.2.2.1)).bind λk=>if neI k.2 0 then(Jv k.2).bind λx=>some (.inr ((e.1,z2.2.1.2),x))else some (.inl (z2.1,k.1,z2.2.2))else if eqI e.2.1 4=false then if eqI e.2.1 1 then if eqI z2.2.2.1.1 5=false then if eqI z2.2.2.1.1 7 then(J2C ((e.1,z2.2.1.2),z2.1)).bind λr=>if r then(J2S ((e.1,z2.2.1.2),z2.1)).bind λj=>if neI j.2 0 then(Jv j.2).bind λw=>some (.inr ((e.1,z2.2.1.2),w))else some (.inr (j.1,e.2))else some (.inr ((e.1,z2.2.1.2),e.2))else some (.inr ((e.1,z2.2.1.2),e.2))else(J2C ((e.1,z2.2.1.2),z2.1)).bind λv=>if v then(J2S ((e.1,z2.2.1.2),z2.1)).bind λg=>if neI g.2 0 then(Jv g.2).bind λq=>some (.inr ((e.1,z2.2.1.2),q))else some (.inr (g.1,e.2))else some (.inr ((e.1,z2.2.1.2),e.2))else some (.inr ((e.1,z2.2.1.2),e.2))else(J2C ((e.1,z2.2.1.2),z2.1)).bind λo=>if o then(J2S ((e.1,z2.2.1.2),z2.1)).bind λh=>if neI h.2 0 then(Jv h.2).bind λn=>some (.inr ((e.1,z2.2.1.2),n))else some (.inr (h.1,e.2))else some (.inr ((e.1,z2.2.1.2),e.2))
def Jcp(x1:JGg):Option (TQ80):=Jf (Jmw) (x1.2.1,x1.1,x1.2.2,((0,0,(0,[],0),(0,[],0),([],[]),[],[],[]),[],0,[],false,[]),0,0,0,(false,[]),0)
def J2l(x1:Jvj):Option (J67):=(J16 (x1.1,x1.2.1)).bind λe=>if neI e.2 0 then(Jv e.2).bind λj=>some (x1.1,j)else if neI e.1.2.1 3 then(Jv 15).bind λk=>some (x1.1,k)else(J2w x1).bind λg=>if Jo g.2 then some (x1.1,1,0,0,(false,[]),0)else(J23 (x1.1,e.1,g.1)).bind λh=>some h
def JiG(z2:JMI):Option ((JMI)⊕(Jq6)):=(J2l (z2.2.2.1.1,z2.1,z2.2.2.2.1)).bind λe=>if eqI e.2.1 5 then some (.inr (z2.2.2.1,z2.2.1,e.2.2.2.2.2))else if eqI e.2.1 3 then(J27 (z2.2.2.1,e.2.2.2.1)).bind λg=>if neI g.2 0 then some (.inr (z2.2.2.1,z2.2.1,g.2))else some (.inl (z2.1,z2.2.1,g.1,z2.2.2.2))else if eqI e.2.2.1 0 then some (.inr (z2.2.2.1,z2.2.1,0))else some (.inl (z2.1,J1 .i64 z2.2.1 1,(e.1,z2.2.2.1.2),z2.2.2.2))
def Jaf(x1:JGs):Option (Jq6):=Jf (JiG) (x1.2.1,0,x1.1,x1.2.2,(0,0,(0,[],0),(0,[],0),([],[]),[],[],[]),[],0,[],false,[])
def JmK(z2:TQ27):Option ((TQ27)⊕(TQ80)):=(Jcp (z2.2.1,z2.1,z2.2.2.1)).bind λe=>if neI e.2.1 2 then some (.inr e)else(J6H (e.1.1,z2.1)).bind λh=>if Jo h.2.2 then some (.inr e)else(Jaf (e.1,h.1,h.2.1)).bind λg=>if neI g.2.2 0 then(Jv g.2.2).bind λj=>some (.inr (g.1,j))else if eqI g.2.1 0 then some (.inr (g.1,e.2))else some (.inl (z2.1,g.1,z2.2.2))
def JcF(x1:JGg):Option (TQ80):=Jf (JmK) (x1.2.1,x1.1,x1.2.2,((0,0,(0,[],0),(0,[],0),([],[]),[],[],[]),[],0,[],false,[]),0,0,0,(false,[]),0)
def J4j(x1:TQ4):Option (TQ3):=if ltI x1.1.2.1 1=false then if gtI x1.1.2.1 (J0 x1.2.2.2.2.2.2.2.2.2.2.2.2.2.2.2.2.2.2.2.2.1)=false then(inb (List.length x1.2.2.2.2.2.2.2.2.2.2.2.2.2.2.2.2.2.2.2.2.1) (JF .i64 x1.1.2.1 1)).bind λ_=>(lat x1.2.2.2.2.2.2.2.2.2.2.2.2.2.2.2.2.2.2.2.2.1 (Int.toNat (JF .i64 x1.1.2.1 1))).bind λk=>if eqI k 0 then(Jv 16).bind λo=>some (o,x1.2)else(inb (List.length x1.2.2.2.2.2.2.2.2.2.2.2.2.2.2.2.2.2.2.2.2.1) (JF .i64 x1.1.2.1 1)).bind λ_=>(lat x1.2.2.2.2.2.2.2.2.2.2.2.2.2.2.2.2.2.2.2.2.1 (Int.toNat (JF .i64 x1.1.2.1 1))).bind λg=>(JcF (((x1.2.1,x1.2.2.1,(x1.2.2.2.1,x1.2.2.2.2.1,x1.2.2.2.2.2.1),(x1.2.2.2.2.2.2.1,x1.2.2.2.2.2.2.2.1,x1.2.2.2.2.2.2.2.2.1),(x1.2.2.2.2.2.2.2.2.2.1,x1.2.2.2.2.2.2.2.2.2.2.1),x1.2.2.2.2.2.2.2.2.2.2.2.1,x1.2.2.2.2.2.2.2.2.2.2.2.2.1,x1.2.2.2.2.2.2.2.2.2.2.2.2.2.1),x1.2.2.2.2.2.2.2.2.2.2.2.2.2.2.1,x1.2.2.2.2.2.2.2.2.2.2.2.2.2.2.2.1,x1.2.2.2.2.2.2.2.2.2.2.2.2.2.2.2.2.1,x1.2.2.2.2.2.2.2.2.2.2.2.2.2.2.2.2.2.1,x1.2.2.2.2.2.2.2.2.2.2.2.2.2.2.2.2.2.2.1),g,x1.1.2.2.2.2.2)).bind λe=>if eqI e.2.1 5 then some (e.2,x1.2)else if eqI e.2.1 1 then if eqI x1.1.2.2.2.2.2.1 1 then(J3I e.1.1.2.2.1).bind λq=>(Jz 56 x1.2.2.2.2.2.2.2.2.2.2.2.2.2.2.2.2.2.2.2.2.2 [(g,x1.1.2.2.2.2.2.2.1,x1.1.2.2.2.2.2.2.2.1,q,e.2.2.2.2.1)]).bind λn=>some (e.2,e.1.1.1,e.1.1.2.1,e.1.1.2.2.1.1,e.1.1.2.2.1.2.1,e.1.1.2.2.1.2.2,e.1.1.2.2.2.1.1,e.1.1.2.2.2.1.2.1,e.1.1.2.2.2.1.2.2,e.1.1.2.2.2.2.1.1,e.1.1.2.2.2.2.1.2,e.1.1.2.2.2.2.2.1,e.1.1.2.2.2.2.2.2.1,e.1.1.2.2.2.2.2.2.2,e.1.2.1,e.1.2.2.1,e.1.2.2.2.1,e.1.2.2.2.2.1,e.1.2.2.2.2.2,x1.2.2.2.2.2.2.2.2.2.2.2.2.2.2.2.2.2.2.2.1,x1.2.2.2.2.2.2.2.2.2.2.2.2.2.2.2.2.2.2.2.2.1,n)else some (e.2,e.1.1.1,e.1.1.2.1,e.1.1.2.2.1.1,e.1.1.2.2.1.2.1,e.1.1.2.2.1.2.2,e.1.1.2.2.2.1.1,e.1.1.2.2.2.1.2.1,e.1.1.2.2.2.1.2.2,e.1.1.2.2.2.2.1.1,e.1.1.2.2.2.2.1.2,e.1.1.2.2.2.2.2.1,e.1.1.2.2.2.2.2.2.1,e.1.1.2.2.2.2.2.2.2,e.1.2.1,e.1.2.2.1,e.1.2.2.2.1,e.1.2.2.2.2.1,e.1.2.2.2.2.2,x1.2.2.2.2.2.2.2.2.2.2.2.2.2.2.2.2.2.2.2)else some (e.2,e.1.1.1,e.1.1.2.1,e.1.1.2.2.1.1,e.1.1.2.2.1.2.1,e.1.1.2.2.1.2.2,e.1.1.2.2.2.1.1,e.1.1.2.2.2.1.2.1,e.1.1.2.2.2.1.2.2,e.1.1.2.2.2.2.1.1,e.1.1.2.2.2.2.1.2,e.1.1.2.2.2.2.2.1,e.1.1.2.2.2.2.2.2.1,e.1.1.2.2.2.2.2.2.2,e.1.2.1,e.1.2.2.1,e.1.2.2.2.1,e.1.2.2.2.2.1,e.1.2.2.2.2.2,x1.2.2.2.2.2.2.2.2.2.2.2.2.2.2.2.2.2.2.2)else(Jv 16).bind λh=>some (h,x1.2)else(Jv 16).bind λj=>some (j,x1.2)
def J9H(x1:J0i×Int×(List UInt8)×Int):Option (J5E):=(J2c (x1.1,x1.2.1)).bind λh=>if neI h 0 then some (([],0,[],false,[]),h)else if ltI x1.2.2.2 0=false then if gtI x1.2.2.2 256 then some (([],0,[],false,[]),1)else if neI (J0 x1.2.2.1) 256 then some (([],0,[],false,[]),2)else(J6V x1.1).bind λg=>(J1s (g.1,g.2.1,g.2.2.1,x1.2.1,x1.2.2.1,x1.2.2.2,g.2.2.2)).bind λe=>some ((e.2.2.2.1,e.1,e.2.1,e.2.2.1,e.2.2.2.2),0)else some (([],0,[],false,[]),1)
def J6n(x1:List UInt8):Option (List UInt8):=if gtI (J0 x1) 8392 then some []else(JO ([],J0 x1,4)).bind λg=>(J62 g x1).bind λe=>(J5y e).bind λh=>(JO (e,cvI .i64 h,4)).bind λj=>some j
def J7i(x1:(List UInt8)×J2x):Option (List UInt8):=if Jo x1.2.1 then(JO (x1.1,255,1)).bind λg=>some g else(JO (x1.1,J0 x1.2.2,1)).bind λe=>(J62 e x1.2.2).bind λh=>some h
def J7H(x1:T_api_Entry):Option (J3G):=(J09 x1).bind λv=>if Jo v then some ([],12)else(JO ([],x1.1,8)).bind λq=>(JO (q,x1.2.1,1)).bind λx=>(JO (x,x1.2.2.1,4)).bind λy=>(JO (y,x1.2.2.2.1,8)).bind λo=>(JO (o,x1.2.2.2.2.1,8)).bind λn=>(JO (n,x1.2.2.2.2.2.1,8)).bind λw=>(JO (w,x1.2.2.2.2.2.2.1.1,4)).bind λr=>(JO (r,x1.2.2.2.2.2.2.1.2.1,1)).bind λe=>(J7i (e,x1.2.2.2.2.2.2.1.2.2.1)).bind λj=>(J7i (j,x1.2.2.2.2.2.2.1.2.2.2)).bind λh=>(JO (h,J0 x1.2.2.2.2.2.2.2,4)).bind λk=>(J62 k x1.2.2.2.2.2.2.2).bind λg=>some (g,0)
def J6k(x1:T_api_Entry):Option (List UInt8):=(J7H x1).bind λg=>(J6n g.1).bind λe=>some e
def J9F(x1:Int):Option (List UInt8):=(JO ([80,77,76,71],x1,8)).bind λg=>(J6n g).bind λe=>some e
def JeD(e:JNG):Option ((JNG)⊕(List UInt8)):=if ltI e.2.2.2.1 (J0 e.2.2.2.2.2.1)then(idx e.2.2.2.2.2.1 e.2.2.2.1).bind λv=>if leI v.1 e.2.2.2.2.2.2 then(idx e.2.2.2.2.2.1 e.2.2.2.1).bind λo=>(J6k o).bind λn=>(J62 e.2.1 n).bind λr=>some (.inl (e.1,r,e.2.2.1,J1 .i64 e.2.2.2.1 1,e.2.2.2.2))else(idx e.2.2.2.2.2.1 e.2.2.2.1).bind λq=>(J6k q).bind λg=>(J62 e.2.2.1 g).bind λj=>some (.inl (e.1,e.2.1,j,J1 .i64 e.2.2.2.1 1,e.2.2.2.2))else Option.map .inr ((J0B e.2.2.1 none (some (JaE (J31 e.1 0) (J0 e.2.2.1)))).bind λh=>(J62 e.2.1 h).bind λk=>some k)
def J47(x1:J6M):Option (List UInt8):=(J0f x1.1).bind λg=>if Jo g then some []else(J9F x1.1.1).bind λe=>Jf (JeD) (x1.2,e,[],0,x1.1)
def J8L(x1:JGs):Option (J0i×(List UInt8)):=(J1k (x1.1.1.2.2.2.1,x1.2.2.1)).bind λe=>if geI e 0 then(idx x1.1.1.2.2.2.1.2.1 e).bind λq=>if q.2.1 then(idx x1.1.1.2.2.2.1.2.1 e).bind λv=>(J4q v.1).bind λw=>(idx x1.1.1.2.2.2.1.2.1 e).bind λo=>(J2o (x1.1.1,o.1.2.1)).bind λg=>(J9H (x1.1.2,x1.2.2.1,w.1,x1.2.2.2)).bind λn=>if eqI n.2 0 then(J47 (g.2.2.1,x1.2.1)).bind λr=>some (n.1,r)else(J47 (g.2.2.1,x1.2.1)).bind λh=>some (x1.1.2,h)else(J47 (x1.1.1.2.2.1,x1.2.1)).bind λk=>some (x1.1.2,k)else(J47 (x1.1.1.2.2.1,x1.2.1)).bind λj=>some (x1.1.2,j)
def J5k(x1:J3G):Option (J0x):=if ltI x1.2 0=false then if gtI x1.2 (J0 x1.1)then some ([],0,1)else(J0u (x1.1,x1.2,4)).bind λe=>if neI e.2 0 then some ([],0,5)else if gtI e.1 8392 then some ([],0,2)else if ltI (JF .i64 (J0 x1.1) x1.2) (J1 .i64 e.1 8)then some ([],0,5)else(J0u (x1.1,J1 .i64 (J1 .i64 x1.2 4) e.1,4)).bind λh=>(J0B x1.1 (some x1.2) (some (J1 .i64 (J1 .i64 x1.2 4) e.1))).bind λj=>(J5y j).bind λk=>if neI (cvI .u32 h.1) k then some ([],0,3)else(J0B x1.1 (some (J1 .i64 x1.2 4)) (some (J1 .i64 (J1 .i64 x1.2 4) e.1))).bind λg=>some (g,J1 .i64 (J1 .i64 x1.2 8) e.1,0)else some ([],0,1)
def J37(x1:JAN):Option ((List UInt8)×J0x):=if neI x1.2.2.2 0 then some ([],x1.2)else if gtI x1.1 (JF .i64 (J0 x1.2.1) x1.2.2.1)then some ([],x1.2.1,x1.2.2.1,5)else(J0B x1.2.1 (some (JF .i64 (J1 .i64 x1.2.2.1 x1.1) x1.1)) (some (J1 .i64 x1.2.2.1 x1.1))).bind λe=>some (e,x1.2.1,J1 .i64 x1.2.2.1 x1.1,x1.2.2.2)
def J0v(x1:JAN):Option (JAN):=if neI x1.2.2.2 0 then some (0,x1.2)else(J0u (x1.2.1,x1.2.2.1,x1.1)).bind λe=>if neI e.2 0 then some (0,x1.2.1,x1.2.2.1,e.2)else some (e.1,x1.2.1,J1 .i64 x1.2.2.1 x1.1,x1.2.2.2)
def J3x(x1:J0x):Option (J2x×J0x):=(J0v (1,x1)).bind λe=>if neI e.2.2.2 0=false then if eqI e.1 255 then some ((false,[]),e.2)else if gtI e.1 12 then some ((false,[]),e.2.1,e.2.2.1,4)else(J37 e).bind λg=>some ((true,g.1),g.2)else some ((false,[]),e.2)
def J7G(x1:List UInt8):Option (JjJ):=(J0v (8,x1,0,0)).bind λq=>(J0v (1,q.2)).bind λn=>(J0v (4,n.2)).bind λv=>(J0v (8,v.2)).bind λw=>(J0v (8,w.2)).bind λk=>(J0v (8,k.2)).bind λj=>(J0v (4,j.2)).bind λr=>(J0v (1,r.2)).bind λo=>(J3x o.2).bind λg=>(J3x g.2).bind λh=>(J0v (4,h.2)).bind λy=>(J37 y).bind λe=>if neI e.2.2.2 0 then some ((0,0,0,0,0,0,(0,0,(false,[]),false,[]),[]),e.2.2.2)else if neI e.2.2.1 (J0 x1)then some ((0,0,0,0,0,0,(0,0,(false,[]),false,[]),[]),4)else(J09 (q.1,n.1,v.1,w.1,k.1,j.1,(r.1,o.1,g.1,h.1),e.1)).bind λx=>if Jo x then some ((0,0,0,0,0,0,(0,0,(false,[]),false,[]),[]),12)else some ((q.1,n.1,v.1,w.1,k.1,j.1,(r.1,o.1,g.1,h.1),e.1),0)
def JgF(e:JMG):Option ((JMG)⊕(J6M)):=if ltI (J0 e.2.2.2.2.2.1) 4096 then(J5k (e.1,e.2.1)).bind λh=>if neI h.2.2 0 then some (.inr ((e.2.2.2.2.2.2.2.1,e.2.2.2.2.2.1,e.2.2.2.2.2.2.2.2),0))else(J7G h.1).bind λg=>if neI g.2 0=false then if neI g.1.1 (J1 .i64 e.2.2.2.2.2.2.2.2 1)then some (.inr ((e.2.2.2.2.2.2.2.1,e.2.2.2.2.2.1,e.2.2.2.2.2.2.2.2),0))else(Jz 128 e.2.2.2.2.2.1 [g.1]).bind λj=>some (.inl (e.1,h.2.1,e.2.2.1,e.2.2.2.1,e.2.2.2.2.1,j,e.2.2.2.2.2.2.1,e.2.2.2.2.2.2.2.1,g.1.1))else some (.inr ((e.2.2.2.2.2.2.2.1,e.2.2.2.2.2.1,e.2.2.2.2.2.2.2.2),0))else some (.inr ((e.2.2.2.2.2.2.2.1,e.2.2.2.2.2.1,e.2.2.2.2.2.2.2.2),0))
def Jai(x1:List UInt8):Option (J6M):=(J5k (x1,0)).bind λe=>if neI e.2.2 0=false then if neI (J0 e.1) 12=false then(J0B e.1 none (some 4)).bind λh=>if neS h [80,77,76,71]then some ((0,[],0),4)else(J0u (e.1,4,8)).bind λg=>if ltI g.1 1=false then if gtI g.1 1099511627776 then some ((0,[],0),4)else Jf (JgF) (x1,e.2.1,[],0,0,[],[],g.1,JF .i64 g.1 1)else some ((0,[],0),4)else some ((0,[],0),4)else some ((0,[],0),4)
def Jaa(x1:JuK):Option (Bool):=if neI x1.1.2.1.1 x1.2.2.1.1 then some (ltI x1.1.2.1.1 x1.2.2.1.1)else if neI x1.1.2.1.2 x1.2.2.1.2 then some (ltI x1.1.2.1.2 x1.2.2.1.2)else some (ltI x1.1.1 x1.2.1)
def JhC(z2:(List T_api_Grant)×Int×T_api_Grant):Option (((List T_api_Grant)×Int×T_api_Grant)⊕(List T_api_Grant)):=if ltI z2.2.1 (J0 z2.1)then(idx z2.1 z2.2.1).bind λE=>(Jaa (E,z2.2.2)).bind λJ=>if J then some (.inl (z2.1,J1 .i64 z2.2.1 1,z2.2.2))else Option.map .inr (if ltI z2.2.1 (J0 z2.1)then(idx z2.1 z2.2.1).bind λG=>if eqT J8 G z2.2.2 then some z2.1 else(J0B z2.1 none (some z2.2.1)).bind λH=>(J1T 32 H).bind λD=>(Jz 32 D [z2.2.2]).bind λF=>(J0B z2.1 (some z2.2.1) none).bind λI=>(Jz 32 F I).bind λg=>some g else(J0B z2.1 none (some z2.2.1)).bind λC=>(J1T 32 C).bind λA=>(Jz 32 A [z2.2.2]).bind λh=>(J0B z2.1 (some z2.2.1) none).bind λy=>(Jz 32 h y).bind λn=>some n)else Option.map .inr (if ltI z2.2.1 (J0 z2.1)then(idx z2.1 z2.2.1).bind λz=>if eqT J8 z z2.2.2 then some z2.1 else(J0B z2.1 none (some z2.2.1)).bind λr=>(J1T 32 r).bind λv=>(Jz 32 v [z2.2.2]).bind λx=>(J0B z2.1 (some z2.2.1) none).bind λw=>(Jz 32 x w).bind λj=>some j else(J0B z2.1 none (some z2.2.1)).bind λB=>(J1T 32 B).bind λq=>(Jz 32 q [z2.2.2]).bind λk=>(J0B z2.1 (some z2.2.1) none).bind λe=>(Jz 32 k e).bind λo=>some o)
def Ja6(x1:JHD):Option (List T_api_Grant):=Jf (JhC) (x1.1,0,x1.2)
def Jet(z3:JMo):Option ((JMo)⊕((JKf)⊕(JBH))):=(idx z3.1 z3.2.2.1).bind λk=>if ltI z3.2.2.2.1 (J0 k.2.2.2.2.1)then(idx z3.1 z3.2.2.1).bind λn=>(idx n.2.2.2.2.1 z3.2.2.2.1).bind λg=>(J0I (z3.2.2.2.2,g)).bind λe=>if neI e.2 0 then Option.map .inr (some (.inr ([],14)))else if neI e.1.2.1 1=false then(idx z3.1 z3.2.2.1).bind λj=>if neI e.1.2.2.1 j.1 then Option.map .inr (some (.inr ([],13)))else(Ja6 (z3.2.1,e.1.2.2.1,(e.1.2.2.2.2.2.2.1.1,e.1.2.2.2.2.2.2.1.2.1),2)).bind λh=>some (.inl (z3.1,h,z3.2.2.1,J1 .i64 z3.2.2.2.1 1,z3.2.2.2.2))else Option.map .inr (some (.inr ([],13)))else some (.inr (.inl (z3.1,z3.2.1,J1 .i64 z3.2.2.1 1,z3.2.2.2.2)))
def Jg9(z2:JKf):Option ((JKf)⊕(JBH)):=if ltI z2.2.2.1 (J0 z2.1)then Jf (Jet) (z2.1,z2.2.1,z2.2.2.1,0,z2.2.2.2)else some (.inr (z2.2.1,0))
def J8u(x1:J04×(List Js)):Option (JBH):=Jf (Jg9) (x1.2,[],0,x1.1)
def JcZ(z3:JMz):Option ((JMz)⊕(JoL)):=if ltI z3.2.2.1 z3.2.1 then(J0u (z3.1,J1 .i64 2 (J32 .i64 24 z3.2.2.1),8)).bind λh=>(J0u (z3.1,J1 .i64 10 (J32 .i64 24 z3.2.2.1),8)).bind λj=>(J0u (z3.1,J1 .i64 18 (J32 .i64 24 z3.2.2.1),8)).bind λg=>(Jz 24 z3.2.2.2.2 [(h.1,j.1,g.1)]).bind λe=>some (.inl (z3.1,z3.2.1,J1 .i64 z3.2.2.1 1,z3.2.2.2.1,e))else Option.map .inr ((J1u z3.2.2.2.2).bind λk=>if Jo k then some ([],28)else some (z3.2.2.2.2,0))
def J7p(x1:List UInt8):Option (JoL):=(J0u (x1,0,2)).bind λe=>if neI e.2 0=false then if ltI (JF .i64 (J0 x1) 2) (J32 .i64 24 e.1)then some ([],5)else if gtI (JF .i64 (J0 x1) 2) (J32 .i64 24 e.1)then some ([],4)else Jf (JcZ) (x1,e.1,0,[],[])else some ([],5)
def J0X(x1:JBS):Option (JBS):=(J0u (x1.2.1,x1.2.2.1,x1.1)).bind λe=>if x1.2.2.2=false then if neI e.2 0 then some (0,x1.2.1,x1.2.2.1,true)else some (e.1,x1.2.1,J1 .i64 x1.2.2.1 x1.1,x1.2.2.2)else some (0,x1.2.1,x1.2.2.1,true)
def J9k(z3:JJr):Option ((JJr)⊕((List Int)×J2b)):=if gtI z3.1 0 then if Jo z3.2.1.2.2 then(J0X (8,z3.2.1)).bind λe=>(Jz 8 z3.2.2 [e.1]).bind λg=>some (.inl (JF .i64 z3.1 1,e.2,g))else some (.inr (z3.2.2,z3.2.1))else some (.inr (z3.2.2,z3.2.1))
def J3w(x1:JBS):Option ((List Int)×J2b):=(J0X x1).bind λe=>Jf (J9k) (e.1,e.2,[])
def JcY(z3:JMk):Option ((JMk)⊕(J2g)):=if gtI z3.2.1 0 then if Jo z3.2.2.1.2.2 then(J0X (4,z3.2.2.1)).bind λo=>(J0X (1,o.2)).bind λq=>(J0X (8,q.2)).bind λg=>(J0X (8,g.2)).bind λe=>(J3w (2,e.2)).bind λr=>(J3w (1,r.2)).bind λh=>(Jz 80 z3.2.2.2 [(o.1,q.1,g.1,e.1,r.1,h.1)]).bind λj=>some (.inl (z3.1,JF .i64 z3.2.1 1,h.2,j))else Option.map .inr (if z3.2.2.1.2.2 then some ([],5)else if neI z3.2.2.1.2.1 (J0 z3.1)then some ([],4)else(J0W z3.2.2.2).bind λn=>if Jo n then some ([],15)else some (z3.2.2.2,0))else Option.map .inr (if z3.2.2.1.2.2 then some ([],5)else if neI z3.2.2.1.2.1 (J0 z3.1)then some ([],4)else(J0W z3.2.2.2).bind λk=>if Jo k then some ([],15)else some (z3.2.2.2,0))
def J7F(x1:List UInt8):Option (J2g):=(J0X (2,x1,0,false)).bind λe=>Jf (JcY) (x1,e.1,e.2,[])
def Je9(e:TQ9):Option ((TQ9)⊕(JoP)):=if ltI e.2.2.2.2.1 e.2.2.2.1 then(J0u (e.1,e.2.2.1,1)).bind λr=>(J0u (e.1,J1 .i64 e.2.2.1 1,8)).bind λq=>(J0u (e.1,J1 .i64 e.2.2.1 9,8)).bind λn=>(Jz 24 e.2.2.2.2.2.2.2.2.2.2.1 [(r.1,q.1,n.1)]).bind λj=>some (.inl (e.1,e.2.1,J1 .i64 e.2.2.1 17,e.2.2.2.1,J1 .i64 e.2.2.2.2.1 1,e.2.2.2.2.2.1,e.2.2.2.2.2.2.1,e.2.2.2.2.2.2.2.1,e.2.2.2.2.2.2.2.2.1,e.2.2.2.2.2.2.2.2.2.1,j,e.2.2.2.2.2.2.2.2.2.2.2))else Option.map .inr ((J7F e.2.1).bind λh=>if neI h.2 0 then some ((0,0,[],[],[]),h.2)else(J0B e.1 (some e.2.2.1) none).bind λo=>(J7p o).bind λg=>if neI g.2 0 then some ((0,0,[],[],[]),g.2)else(J6j (e.2.2.2.2.2.2.2.2.2.2.2.1,e.2.2.2.2.2.2.2.2.2.2.2.2.1,h.1,e.2.2.2.2.2.2.2.2.2.2.1,g.1)).bind λk=>if Jo k then some ((0,0,[],[],[]),24)else some ((e.2.2.2.2.2.2.2.2.2.2.2.1,e.2.2.2.2.2.2.2.2.2.2.2.2.1,h.1,e.2.2.2.2.2.2.2.2.2.2.1,g.1),0))
def J7q(x1:List UInt8):Option (JoP):=(J0u (x1,0,2)).bind λj=>(J0u (x1,2,4)).bind λh=>(J0u (x1,6,4)).bind λe=>if neI e.2 0=false then if gtI e.1 (JF .i64 (J0 x1) 10)then some ((0,0,[],[],[]),5)else(J0B x1 (some 10) (some (J1 .i64 10 e.1))).bind λk=>(J0u (x1,J1 .i64 10 e.1,1)).bind λg=>if neI g.2 0=false then if ltI (JF .i64 (JF .i64 (J0 x1) (J1 .i64 10 e.1)) 1) (J32 .i64 17 g.1)then some ((0,0,[],[],[]),5)else Jf (Je9) (x1,k,J1 .i64 (J1 .i64 10 e.1) 1,g.1,0,[],0,0,[],[],[],j.1,h.1,[],[])else some ((0,0,[],[],[]),5)else some ((0,0,[],[],[]),5)
def JdU(z3:Int×J04×J10):Option ((Int×J04×J10)⊕(J10×Int×Bool)):=if geI z3.1 0 then(idx z3.2.1.2.1 z3.1).bind λh=>if neI h.2.1 6 then some (.inl (JF .i64 z3.1 1,z3.2))else(idx z3.2.1.2.1 z3.1).bind λj=>(J7q j.2.2.2.2.2.2.2).bind λe=>if eqI e.2 0 then(idx z3.2.1.2.1 z3.1).bind λg=>some (.inr (e.1,g.1,true))else some (.inl (JF .i64 z3.1 1,z3.2))else some (.inr ((0,0,[],[],[]),0,false))
def J7o(x1:J04):Option (J10×Int×Bool):=(J0f x1).bind λe=>if Jo e then some ((0,0,[],[],[]),0,false)else Jf (JdU) (JF .i64 (J0 x1.2.1) 1,x1,0,0,[],[],[])
def J8y(x1:J6M):Option (Jro):=(J7o x1.1).bind λe=>if Jo e.2.2 then if gtI x1.1.1 1 then some ((0,0,0,[],[],[],[]),24)else(J8g x1.2).bind λg=>some ((x1.2,1,0,[],[],[],g.1),0)else if neI e.1.1 x1.2 then some ((0,0,0,[],[],[],[]),24)else some ((x1.2,e.1.2.1,e.2.1,e.1.2.2.1,[],e.1.2.2.2),0)
def Ja4(z3:JCI):Option ((JCI)⊕(List T_api_Row)):=if ltI z3.2.2.1 (J0 z3.1)then(idx z3.1 z3.2.2.1).bind λe=>if gtI e.1 z3.2.2.2.1.2.2.2.2.2.2.1.1 then if Jo z3.2.1 then(JM z3.2.2.2.1).bind λJ=>if J then(Jz 24 z3.2.2.2.2 [(z3.2.2.2.1.2.2.2.2.2.2.1.1,z3.2.2.2.1.1,z3.2.2.2.1.1)]).bind λg=>if eqI e.1 z3.2.2.2.1.2.2.2.2.2.2.1.1 then(JM z3.2.2.2.1).bind λH=>if H then(Jz 24 g [(e.1,e.2.1,z3.2.2.2.1.1)]).bind λI=>some (.inl (z3.1,true,J1 .i64 z3.2.2.1 1,z3.2.2.2.1,I))else if geI z3.2.2.2.1.2.2.2.2.2.1 e.2.2 then some (.inl (z3.1,true,J1 .i64 z3.2.2.1 1,z3.2.2.2.1,g))else if geI z3.2.2.2.1.2.2.2.2.2.1 e.2.1 then(Jz 24 g [(e.1,J1 .i64 z3.2.2.2.1.2.2.2.2.2.1 1,e.2.2)]).bind λK=>some (.inl (z3.1,true,J1 .i64 z3.2.2.1 1,z3.2.2.2.1,K))else(Jz 24 g [e]).bind λj=>some (.inl (z3.1,true,J1 .i64 z3.2.2.1 1,z3.2.2.2.1,j))else(Jz 24 g [e]).bind λF=>some (.inl (z3.1,true,J1 .i64 z3.2.2.1 1,z3.2.2.2.1,F))else if eqI e.1 z3.2.2.2.1.2.2.2.2.2.2.1.1 then(JM z3.2.2.2.1).bind λC=>if C then(Jz 24 z3.2.2.2.2 [(e.1,e.2.1,z3.2.2.2.1.1)]).bind λk=>some (.inl (z3.1,true,J1 .i64 z3.2.2.1 1,z3.2.2.2.1,k))else if geI z3.2.2.2.1.2.2.2.2.2.1 e.2.2 then some (.inl (z3.1,true,J1 .i64 z3.2.2.1 1,z3.2.2.2))else if geI z3.2.2.2.1.2.2.2.2.2.1 e.2.1 then(Jz 24 z3.2.2.2.2 [(e.1,J1 .i64 z3.2.2.2.1.2.2.2.2.2.1 1,e.2.2)]).bind λA=>some (.inl (z3.1,true,J1 .i64 z3.2.2.1 1,z3.2.2.2.1,A))else(Jz 24 z3.2.2.2.2 [e]).bind λq=>some (.inl (z3.1,true,J1 .i64 z3.2.2.1 1,z3.2.2.2.1,q))else(Jz 24 z3.2.2.2.2 [e]).bind λB=>some (.inl (z3.1,z3.2.1,J1 .i64 z3.2.2.1 1,z3.2.2.2.1,B))else if eqI e.1 z3.2.2.2.1.2.2.2.2.2.2.1.1 then(JM z3.2.2.2.1).bind λw=>if w then(Jz 24 z3.2.2.2.2 [(e.1,e.2.1,z3.2.2.2.1.1)]).bind λx=>some (.inl (z3.1,true,J1 .i64 z3.2.2.1 1,z3.2.2.2.1,x))else if geI z3.2.2.2.1.2.2.2.2.2.1 e.2.2 then some (.inl (z3.1,true,J1 .i64 z3.2.2.1 1,z3.2.2.2))else if geI z3.2.2.2.1.2.2.2.2.2.1 e.2.1 then(Jz 24 z3.2.2.2.2 [(e.1,J1 .i64 z3.2.2.2.1.2.2.2.2.2.1 1,e.2.2)]).bind λz=>some (.inl (z3.1,true,J1 .i64 z3.2.2.1 1,z3.2.2.2.1,z))else(Jz 24 z3.2.2.2.2 [e]).bind λy=>some (.inl (z3.1,true,J1 .i64 z3.2.2.1 1,z3.2.2.2.1,y))else(Jz 24 z3.2.2.2.2 [e]).bind λn=>some (.inl (z3.1,z3.2.1,J1 .i64 z3.2.2.1 1,z3.2.2.2.1,n))else if eqI e.1 z3.2.2.2.1.2.2.2.2.2.2.1.1 then(JM z3.2.2.2.1).bind λE=>if E then(Jz 24 z3.2.2.2.2 [(e.1,e.2.1,z3.2.2.2.1.1)]).bind λv=>some (.inl (z3.1,true,J1 .i64 z3.2.2.1 1,z3.2.2.2.1,v))else if geI z3.2.2.2.1.2.2.2.2.2.1 e.2.2 then some (.inl (z3.1,true,J1 .i64 z3.2.2.1 1,z3.2.2.2))else if geI z3.2.2.2.1.2.2.2.2.2.1 e.2.1 then(Jz 24 z3.2.2.2.2 [(e.1,J1 .i64 z3.2.2.2.1.2.2.2.2.2.1 1,e.2.2)]).bind λo=>some (.inl (z3.1,true,J1 .i64 z3.2.2.1 1,z3.2.2.2.1,o))else(Jz 24 z3.2.2.2.2 [e]).bind λh=>some (.inl (z3.1,true,J1 .i64 z3.2.2.1 1,z3.2.2.2.1,h))else(Jz 24 z3.2.2.2.2 [e]).bind λr=>some (.inl (z3.1,z3.2.1,J1 .i64 z3.2.2.1 1,z3.2.2.2.1,r))else Option.map .inr (if Jo z3.2.1 then(JM z3.2.2.2.1).bind λD=>if D then(Jz 24 z3.2.2.2.2 [(z3.2.2.2.1.2.2.2.2.2.2.1.1,z3.2.2.2.1.1,z3.2.2.2.1.1)]).bind λG=>some G else some z3.2.2.2.2 else some z3.2.2.2.2)
def Jsi(e:JCI):Option ((JCI)⊕(List T_api_Row)):=if ltI e.2.2.1 (J0 e.1)then(idx e.1 e.2.2.1).bind λg=>if gtI g.1 e.2.2.2.1.2.2.2.2.2.2.1.1 then if Jo e.2.1 then(JM e.2.2.2.1).bind λk=>if k then(Jz 24 e.2.2.2.2 [(e.2.2.2.1.2.2.2.2.2.2.1.1,e.2.2.2.1.1,e.2.2.2.1.1)]).bind λh=>if eqI g.1 e.2.2.2.1.2.2.2.2.2.2.1.1 then(JM e.2.2.2.1).bind λC=>if C then(Jz 24 h [(g.1,g.2.1,e.2.2.2.1.1)]).bind λK=>some (.inl (e.1,true,J1 .i64 e.2.2.1 1,e.2.2.2.1,K))else if geI e.2.2.2.1.2.2.2.2.2.1 g.2.2 then some (.inl (e.1,true,J1 .i64 e.2.2.1 1,e.2.2.2.1,h))else if geI e.2.2.2.1.2.2.2.2.2.1 g.2.1 then(Jz 24 h [(g.1,J1 .i64 e.2.2.2.1.2.2.2.2.2.1 1,g.2.2)]).bind λj=>some (.inl (e.1,true,J1 .i64 e.2.2.1 1,e.2.2.2.1,j))else(Jz 24 h [g]).bind λo=>some (.inl (e.1,true,J1 .i64 e.2.2.1 1,e.2.2.2.1,o))else(Jz 24 h [g]).bind λH=>some (.inl (e.1,true,J1 .i64 e.2.2.1 1,e.2.2.2.1,H))else if eqI g.1 e.2.2.2.1.2.2.2.2.2.2.1.1 then(JM e.2.2.2.1).bind λx=>if x then(Jz 24 e.2.2.2.2 [(g.1,g.2.1,e.2.2.2.1.1)]).bind λA=>some (.inl (e.1,true,J1 .i64 e.2.2.1 1,e.2.2.2.1,A))else if geI e.2.2.2.1.2.2.2.2.2.1 g.2.2 then some (.inl (e.1,true,J1 .i64 e.2.2.1 1,e.2.2.2))else if geI e.2.2.2.1.2.2.2.2.2.1 g.2.1 then(Jz 24 e.2.2.2.2 [(g.1,J1 .i64 e.2.2.2.1.2.2.2.2.2.1 1,g.2.2)]).bind λE=>some (.inl (e.1,true,J1 .i64 e.2.2.1 1,e.2.2.2.1,E))else(Jz 24 e.2.2.2.2 [g]).bind λF=>some (.inl (e.1,true,J1 .i64 e.2.2.1 1,e.2.2.2.1,F))else(Jz 24 e.2.2.2.2 [g]).bind λv=>some (.inl (e.1,e.2.1,J1 .i64 e.2.2.1 1,e.2.2.2.1,v))else if eqI g.1 e.2.2.2.1.2.2.2.2.2.2.1.1 then(JM e.2.2.2.1).bind λw=>if w then(Jz 24 e.2.2.2.2 [(g.1,g.2.1,e.2.2.2.1.1)]).bind λq=>some (.inl (e.1,true,J1 .i64 e.2.2.1 1,e.2.2.2.1,q))else if geI e.2.2.2.1.2.2.2.2.2.1 g.2.2 then some (.inl (e.1,true,J1 .i64 e.2.2.1 1,e.2.2.2))else if geI e.2.2.2.1.2.2.2.2.2.1 g.2.1 then(Jz 24 e.2.2.2.2 [(g.1,J1 .i64 e.2.2.2.1.2.2.2.2.2.1 1,g.2.2)]).bind λL=>some (.inl (e.1,true,J1 .i64 e.2.2.1 1,e.2.2.2.1,L))else(Jz 24 e.2.2.2.2 [g]).bind λr=>some (.inl (e.1,true,J1 .i64 e.2.2.1 1,e.2.2.2.1,r))else(Jz 24 e.2.2.2.2 [g]).bind λB=>some (.inl (e.1,e.2.1,J1 .i64 e.2.2.1 1,e.2.2.2.1,B))else if eqI g.1 e.2.2.2.1.2.2.2.2.2.2.1.1 then(JM e.2.2.2.1).bind λJ=>if J then(Jz 24 e.2.2.2.2 [(g.1,g.2.1,e.2.2.2.1.1)]).bind λD=>some (.inl (e.1,true,J1 .i64 e.2.2.1 1,e.2.2.2.1,D))else if geI e.2.2.2.1.2.2.2.2.2.1 g.2.2 then some (.inl (e.1,true,J1 .i64 e.2.2.1 1,e.2.2.2))else if geI e.2.2.2.1.2.2.2.2.2.1 g.2.1 then(Jz 24 e.2.2.2.2 [(g.1,J1 .i64 e.2.2.2.1.2.2.2.2.2.1 1,g.2.2)]).bind λy=>some (.inl (e.1,true,J1 .i64 e.2.2.1 1,e.2.2.2.1,y))else(Jz 24 e.2.2.2.2 [g]).bind λz=>some (.inl (e.1,true,J1 .i64 e.2.2.1 1,e.2.2.2.1,z))else(Jz 24 e.2.2.2.2 [g]).bind λG=>some (.inl (e.1,e.2.1,J1 .i64 e.2.2.1 1,e.2.2.2.1,G))else Option.map .inr (if Jo e.2.1 then(JM e.2.2.2.1).bind λn=>if n then(Jz 24 e.2.2.2.2 [(e.2.2.2.1.2.2.2.2.2.2.1.1,e.2.2.2.1.1,e.2.2.2.1.1)]).bind λI=>some I else some e.2.2.2.2 else some e.2.2.2.2)
def J2M(x1:JHA):Option (List T_api_Row):=(JM x1.2).bind λe=>if Jo e then if neI x1.2.2.1 7 then some x1.1 else Jf (Ja4) (x1.1,false,0,x1.2,[])else Jf (Jsi) (x1.1,false,0,x1.2,[])
def J9z(x1:J1J×T_api_Entry):Option (Jro):=if gtI x1.2.2.2.1 0 then(J0L (x1.1.2.2.2.1,x1.2.2.2.1)).bind λB=>if ltI B 0 then(J6h (x1.1.2.2.2.1,x1.2.2.2.1)).bind λo=>if neI o.2 0 then some (x1.1,o.2)else(J0A (o.1,x1.2)).bind λk=>if neI k.2 0 then some ((x1.1.1,x1.1.2.1,x1.1.2.2.1,o.1,x1.1.2.2.2.2),k.2)else(J2I (x1.1.2.2.2.2.2.2,x1.2)).bind λn=>if neI n.2 0 then some ((x1.1.1,J31 x1.1.2.1 (J1 .i64 x1.2.2.2.1 1),x1.1.2.2.1,k.1,x1.1.2.2.2.2),n.2)else(JM x1.2).bind λA=>if A then if geI x1.2.2.2.2.2.2.2.1.1 x1.1.1 then some ((x1.1.1,J31 x1.1.2.1 (J1 .i64 x1.2.2.2.1 1),x1.1.2.2.1,k.1,x1.1.2.2.2.2.1,x1.1.2.2.2.2.2.1,n.1),1)else(J2M (x1.1.2.2.2.2.2.1,x1.2)).bind λz=>some ((x1.1.1,J31 x1.1.2.1 (J1 .i64 x1.2.2.2.1 1),x1.1.2.2.1,k.1,x1.1.2.2.2.2.1,z,n.1),0)else(J2M (x1.1.2.2.2.2.2.1,x1.2)).bind λC=>some ((x1.1.1,J31 x1.1.2.1 (J1 .i64 x1.2.2.2.1 1),x1.1.2.2.1,k.1,x1.1.2.2.2.2.1,C,n.1),0)else(J0A (x1.1.2.2.2.1,x1.2)).bind λj=>if neI j.2 0 then some (x1.1,j.2)else(J2I (x1.1.2.2.2.2.2.2,x1.2)).bind λh=>if neI h.2 0 then some ((x1.1.1,J31 x1.1.2.1 (J1 .i64 x1.2.2.2.1 1),x1.1.2.2.1,j.1,x1.1.2.2.2.2),h.2)else(JM x1.2).bind λw=>if w then if geI x1.2.2.2.2.2.2.2.1.1 x1.1.1 then some ((x1.1.1,J31 x1.1.2.1 (J1 .i64 x1.2.2.2.1 1),x1.1.2.2.1,j.1,x1.1.2.2.2.2.1,x1.1.2.2.2.2.2.1,h.1),1)else(J2M (x1.1.2.2.2.2.2.1,x1.2)).bind λv=>some ((x1.1.1,J31 x1.1.2.1 (J1 .i64 x1.2.2.2.1 1),x1.1.2.2.1,j.1,x1.1.2.2.2.2.1,v,h.1),0)else(J2M (x1.1.2.2.2.2.2.1,x1.2)).bind λx=>some ((x1.1.1,J31 x1.1.2.1 (J1 .i64 x1.2.2.2.1 1),x1.1.2.2.1,j.1,x1.1.2.2.2.2.1,x,h.1),0)else(J0A (x1.1.2.2.2.1,x1.2)).bind λe=>if neI e.2 0 then some (x1.1,e.2)else(J2I (x1.1.2.2.2.2.2.2,x1.2)).bind λg=>if neI g.2 0 then some ((x1.1.1,J31 x1.1.2.1 (J1 .i64 x1.2.2.2.1 1),x1.1.2.2.1,e.1,x1.1.2.2.2.2),g.2)else(JM x1.2).bind λq=>if q then if geI x1.2.2.2.2.2.2.2.1.1 x1.1.1 then some ((x1.1.1,J31 x1.1.2.1 (J1 .i64 x1.2.2.2.1 1),x1.1.2.2.1,e.1,x1.1.2.2.2.2.1,x1.1.2.2.2.2.2.1,g.1),1)else(J2M (x1.1.2.2.2.2.2.1,x1.2)).bind λr=>some ((x1.1.1,J31 x1.1.2.1 (J1 .i64 x1.2.2.2.1 1),x1.1.2.2.1,e.1,x1.1.2.2.2.2.1,r,g.1),0)else(J2M (x1.1.2.2.2.2.2.1,x1.2)).bind λy=>some ((x1.1.1,J31 x1.1.2.1 (J1 .i64 x1.2.2.2.1 1),x1.1.2.2.1,e.1,x1.1.2.2.2.2.1,y,g.1),0)
def Jcj(e:JNn):Option ((JNn)⊕(Jro)):=if ltI e.1 (J0 e.2.2.2.1.2.2.2.1)then(idx e.2.2.2.1.2.2.2.1 e.1).bind λk=>if gtI k.2.2.1 0 then(idx e.2.2.2.1.2.2.2.1 e.1).bind λh=>(Jz 80 e.2.2.2.2 [h]).bind λj=>some (.inl (J1 .i64 e.1 1,e.2.1,e.2.2.1,e.2.2.2.1,j))else some (.inl (J1 .i64 e.1 1,e.2))else Option.map .inr ((J8u (e.2.1,e.2.2.2.2)).bind λg=>if neI g.2 0 then some ((0,0,0,[],[],[],[]),g.2)else some ((e.2.2.2.1.1,e.2.2.2.1.2.1,e.2.2.2.1.2.2.1,e.2.2.2.2,g.1,e.2.2.2.1.2.2.2.2.2),0))
def Jci(e:JMf):Option ((JMf)⊕(Jro)):=if ltI e.1 (J0 e.2.1.2.1)then(idx e.2.1.2.1 e.1).bind λh=>if leI h.1 e.2.2.2.2.2.1 then some (.inl (J1 .i64 e.1 1,e.2))else(idx e.2.1.2.1 e.1).bind λj=>(J9z (e.2.2.2,j)).bind λg=>if neI g.2 0 then some (.inr ((0,0,0,[],[],[],[]),g.2))else some (.inl (J1 .i64 e.1 1,e.2.1,e.2.2.1,g.1))else Option.map .inr (Jf (Jcj) (0,e.2.1,e.2.2.1,e.2.2.2,[]))
def J6A(x1:J6M):Option (Jro):=(J0f x1.1).bind λg=>if Jo g then some ((0,0,0,[],[],[],[]),26)else if ltI x1.2 1=false then if gtI x1.2 64 then some ((0,0,0,[],[],[],[]),1)else(J8y x1).bind λe=>if neI e.2 0 then some ((0,0,0,[],[],[],[]),e.2)else Jf (Jci) (0,x1.1,(0,0,0,[],[],[],[]),e.1)else some ((0,0,0,[],[],[],[]),1)
def JfK(e:JN1):Option ((JN1)⊕(J1F)):=if ltI e.1 (J0 e.2.2.1.2.2.2.1)then(idx e.2.2.1.2.2.2.1 e.1).bind λh=>if eqI h.2.1 3 then some (.inl (J1 .i64 e.1 1,e.2))else(idx e.2.2.1.2.2.2.1 e.1).bind λj=>(J1b (e.2.2.2.2.2,0,4,j.1,0,0,0,(0,0,(false,[]),false,[]),[])).bind λg=>if neI g.2.2 0 then some (.inr ((0,0,(0,[],0),(0,[],0),([],[]),[],[],[]),g.2.2))else some (.inl (J1 .i64 e.1 1,e.2.1,e.2.2.1,e.2.2.2.1,e.2.2.2.2.1,g.1))else some (.inr (e.2.2.2.2.2,0))
def J8F(x1:J04×J1J×Int):Option (J1F):=(J8b x1.2.2).bind λe=>if neI e.2 0 then some ((0,0,(0,[],0),(0,[],0),([],[]),[],[],[]),1)else(JJ (x1.2.1.1,x1.2.1.2.1,x1.1,e.1,(x1.2.1.2.2.2.2.1,[]),x1.2.1.2.2.2.1,x1.2.1.2.2.2.2.2.2,x1.2.1.2.2.2.2.2.1)).bind λg=>if Jo g then some ((0,0,(0,[],0),(0,[],0),([],[]),[],[],[]),15)else Jf (JfK) (0,x1.1,x1.2.1,(0,0,(0,[],0),(0,[],0),([],[]),[],[],[]),e.1,x1.2.1.1,x1.2.1.2.1,x1.1,e.1,(x1.2.1.2.2.2.2.1,[]),x1.2.1.2.2.2.1,x1.2.1.2.2.2.2.2.2,x1.2.1.2.2.2.2.2.1)
def J9D(x1:JGh):Option (J3r):=(Jai x1.2.1).bind λe=>if neI e.2 0 then some (((0,0,(0,[],0),(0,[],0),([],[]),[],[],[]),[],0,[],false,[]),e.2)else(J6A (e.1,x1.2.2.1)).bind λg=>if neI g.2 0 then some (((0,0,(0,[],0),(0,[],0),([],[]),[],[],[]),[],0,[],false,[]),g.2)else(J8F (e.1,g.1,x1.2.2.2)).bind λh=>if neI h.2 0 then some (((0,0,(0,[],0),(0,[],0),([],[]),[],[],[]),[],0,[],false,[]),h.2)else some ((h.1,x1.1),0)
def J9w(x1:JGh):Option (J3r):=(J9D x1).bind λe=>some e
def J6Y(e:TQ1):Option ((TQ1)⊕(TQ3)):=if ltI e.2.1 (J0 e.2.2.2.2.2.2.2.2.2.2.2.2.2.2.2.2.2.2.2.2.2.1)then(inb (List.length e.2.2.2.2.2.2.2.2.2.2.2.2.2.2.2.2.2.2.2.2.2.1) e.2.1).bind λ_=>(lat e.2.2.2.2.2.2.2.2.2.2.2.2.2.2.2.2.2.2.2.2.2.1 (Int.toNat e.2.1)).bind λ_=>some (.inl (e.1,J1 .i64 e.2.1 1,e.2.2.1,e.2.2.2.1,e.2.2.2.2.1,e.2.2.2.2.2.1,e.2.2.2.2.2.2.1,e.2.2.2.2.2.2.2.1,e.2.2.2.2.2.2.2.2.1,e.2.2.2.2.2.2.2.2.2.1,e.2.2.2.2.2.2.2.2.2.2.1,e.2.2.2.2.2.2.2.2.2.2.2.1,e.2.2.2.2.2.2.2.2.2.2.2.2.1,e.2.2.2.2.2.2.2.2.2.2.2.2.2.1,e.2.2.2.2.2.2.2.2.2.2.2.2.2.2.1,e.2.2.2.2.2.2.2.2.2.2.2.2.2.2.2.1,e.2.2.2.2.2.2.2.2.2.2.2.2.2.2.2.2.1,e.2.2.2.2.2.2.2.2.2.2.2.2.2.2.2.2.2.1,e.2.2.2.2.2.2.2.2.2.2.2.2.2.2.2.2.2.2.1,e.2.2.2.2.2.2.2.2.2.2.2.2.2.2.2.2.2.2.2.1,e.2.2.2.2.2.2.2.2.2.2.2.2.2.2.2.2.2.2.2.2.1,J0t e.2.2.2.2.2.2.2.2.2.2.2.2.2.2.2.2.2.2.2.2.2.1 (Int.toNat e.2.1) 0,e.2.2.2.2.2.2.2.2.2.2.2.2.2.2.2.2.2.2.2.2.2.2))else Option.map .inr (if neI e.1 0 then(J2v e.1).bind λg=>some (g,e.2.2.1,e.2.2.2.1,e.2.2.2.2.1,e.2.2.2.2.2.1,e.2.2.2.2.2.2.1,e.2.2.2.2.2.2.2.1,e.2.2.2.2.2.2.2.2.1,e.2.2.2.2.2.2.2.2.2.1,e.2.2.2.2.2.2.2.2.2.2.1,e.2.2.2.2.2.2.2.2.2.2.2.1,e.2.2.2.2.2.2.2.2.2.2.2.2.1,e.2.2.2.2.2.2.2.2.2.2.2.2.2.1,e.2.2.2.2.2.2.2.2.2.2.2.2.2.2.1,e.2.2.2.2.2.2.2.2.2.2.2.2.2.2.2.1,e.2.2.2.2.2.2.2.2.2.2.2.2.2.2.2.2.1,e.2.2.2.2.2.2.2.2.2.2.2.2.2.2.2.2.2.1,e.2.2.2.2.2.2.2.2.2.2.2.2.2.2.2.2.2.2.1,e.2.2.2.2.2.2.2.2.2.2.2.2.2.2.2.2.2.2.2.1,true,e.2.2.2.2.2.2.2.2.2.2.2.2.2.2.2.2.2.2.2.2.2.1,e.2.2.2.2.2.2.2.2.2.2.2.2.2.2.2.2.2.2.2.2.2.2.1)else(J2v 0).bind λh=>some (h,e.2.2.2.2.2.2.2.2.2.2.2.2.2.2.2.2.2.2.2.2.2.2.2.2.2.2.1.1,e.2.2.2.2.2.2.2.2.2.2.2.2.2.2.2.2.2.2.2.2.2.2.2.2.2.2.1.2.1,e.2.2.2.2.2.2.2.2.2.2.2.2.2.2.2.2.2.2.2.2.2.2.2.2.2.2.1.2.2.1.1,e.2.2.2.2.2.2.2.2.2.2.2.2.2.2.2.2.2.2.2.2.2.2.2.2.2.2.1.2.2.1.2.1,e.2.2.2.2.2.2.2.2.2.2.2.2.2.2.2.2.2.2.2.2.2.2.2.2.2.2.1.2.2.1.2.2,e.2.2.2.2.2.2.2.2.2.2.2.2.2.2.2.2.2.2.2.2.2.2.2.2.2.2.1.2.2.2.1.1,e.2.2.2.2.2.2.2.2.2.2.2.2.2.2.2.2.2.2.2.2.2.2.2.2.2.2.1.2.2.2.1.2.1,e.2.2.2.2.2.2.2.2.2.2.2.2.2.2.2.2.2.2.2.2.2.2.2.2.2.2.1.2.2.2.1.2.2,e.2.2.2.2.2.2.2.2.2.2.2.2.2.2.2.2.2.2.2.2.2.2.2.2.2.2.1.2.2.2.2.1.1,e.2.2.2.2.2.2.2.2.2.2.2.2.2.2.2.2.2.2.2.2.2.2.2.2.2.2.1.2.2.2.2.1.2,e.2.2.2.2.2.2.2.2.2.2.2.2.2.2.2.2.2.2.2.2.2.2.2.2.2.2.1.2.2.2.2.2.1,e.2.2.2.2.2.2.2.2.2.2.2.2.2.2.2.2.2.2.2.2.2.2.2.2.2.2.1.2.2.2.2.2.2.1,e.2.2.2.2.2.2.2.2.2.2.2.2.2.2.2.2.2.2.2.2.2.2.2.2.2.2.1.2.2.2.2.2.2.2,e.2.2.2.2.2.2.2.2.2.2.2.2.2.2.2.2.2.2.2.2.2.2.2.2.2.2.2.1,e.2.2.2.2.2.2.2.2.2.2.2.2.2.2.2.2.2.2.2.2.2.2.2.2.2.2.2.2.1,e.2.2.2.2.2.2.2.2.2.2.2.2.2.2.2.2.2.2.2.2.2.2.2.2.2.2.2.2.2.1,e.2.2.2.2.2.2.2.2.2.2.2.2.2.2.2.2.2.2.2.2.2.2.2.2.2.2.2.2.2.2.1,e.2.2.2.2.2.2.2.2.2.2.2.2.2.2.2.2.2.2.2.2.2.2.2.2.2.2.2.2.2.2.2,e.2.2.2.2.2.2.2.2.2.2.2.2.2.2.2.2.2.2.2.2.1,e.2.2.2.2.2.2.2.2.2.2.2.2.2.2.2.2.2.2.2.2.2.1,e.2.2.2.2.2.2.2.2.2.2.2.2.2.2.2.2.2.2.2.2.2.2.1))
def J3F(x1:TQ4):Option (TQ3):=(J8L (((x1.2.1,x1.2.2.1,(x1.2.2.2.1,x1.2.2.2.2.1,x1.2.2.2.2.2.1),(x1.2.2.2.2.2.2.1,x1.2.2.2.2.2.2.2.1,x1.2.2.2.2.2.2.2.2.1),(x1.2.2.2.2.2.2.2.2.2.1,x1.2.2.2.2.2.2.2.2.2.2.1),x1.2.2.2.2.2.2.2.2.2.2.2.1,x1.2.2.2.2.2.2.2.2.2.2.2.2.1,x1.2.2.2.2.2.2.2.2.2.2.2.2.2.1),x1.2.2.2.2.2.2.2.2.2.2.2.2.2.2.1,x1.2.2.2.2.2.2.2.2.2.2.2.2.2.2.2.1,x1.2.2.2.2.2.2.2.2.2.2.2.2.2.2.2.2.1,x1.2.2.2.2.2.2.2.2.2.2.2.2.2.2.2.2.2.1,x1.2.2.2.2.2.2.2.2.2.2.2.2.2.2.2.2.2.2.1),x1.1.2.2.2.1,x1.1.2.2.1,x1.1.2.2.2.2.1)).bind λe=>(J9w (e.1,e.2,x1.2.1,x1.2.2.2.2.2.2.1)).bind λg=>Jf (J6Y) (g.2,0,x1.2.1,x1.2.2.1,x1.2.2.2.1,x1.2.2.2.2.1,x1.2.2.2.2.2.1,x1.2.2.2.2.2.2.1,x1.2.2.2.2.2.2.2.1,x1.2.2.2.2.2.2.2.2.1,x1.2.2.2.2.2.2.2.2.2.1,x1.2.2.2.2.2.2.2.2.2.2.1,x1.2.2.2.2.2.2.2.2.2.2.2.1,x1.2.2.2.2.2.2.2.2.2.2.2.2.1,x1.2.2.2.2.2.2.2.2.2.2.2.2.2.1,x1.2.2.2.2.2.2.2.2.2.2.2.2.2.2.1,x1.2.2.2.2.2.2.2.2.2.2.2.2.2.2.2.1,x1.2.2.2.2.2.2.2.2.2.2.2.2.2.2.2.2.1,x1.2.2.2.2.2.2.2.2.2.2.2.2.2.2.2.2.2.1,x1.2.2.2.2.2.2.2.2.2.2.2.2.2.2.2.2.2.2.1,x1.2.2.2.2.2.2.2.2.2.2.2.2.2.2.2.2.2.2.2.1,x1.2.2.2.2.2.2.2.2.2.2.2.2.2.2.2.2.2.2.2.2.1,x1.2.2.2.2.2.2.2.2.2.2.2.2.2.2.2.2.2.2.2.2.2,x1.1,(0,0,0,(false,[]),0),e.1,g.1)
def J1m(x1:TQ2):Option (TQ3):=if eqI x1.2.1 0 then(J2v x1.2.1).bind λg=>some (g,x1.1.1.1,x1.1.1.2.1,x1.1.1.2.2.1.1,x1.1.1.2.2.1.2.1,x1.1.1.2.2.1.2.2,x1.1.1.2.2.2.1.1,x1.1.1.2.2.2.1.2.1,x1.1.1.2.2.2.1.2.2,x1.1.1.2.2.2.2.1.1,x1.1.1.2.2.2.2.1.2,x1.1.1.2.2.2.2.2.1,x1.1.1.2.2.2.2.2.2.1,x1.1.1.2.2.2.2.2.2.2,x1.1.2.1,x1.1.2.2.1,x1.1.2.2.2.1,x1.1.2.2.2.2.1,x1.1.2.2.2.2.2,x1.2.2.2.2.2.2.2.2.2.2.2.2.2.2.2.2.2.2.2.2)else(J2v x1.2.1).bind λe=>some (e,x1.2.2)
def J3S(x1:TQ4):Option (TQ3):=if eqI x1.1.1 1 then(J8v ((x1.2.1,x1.2.2.1,(x1.2.2.2.1,x1.2.2.2.2.1,x1.2.2.2.2.2.1),(x1.2.2.2.2.2.2.1,x1.2.2.2.2.2.2.2.1,x1.2.2.2.2.2.2.2.2.1),(x1.2.2.2.2.2.2.2.2.2.1,x1.2.2.2.2.2.2.2.2.2.2.1),x1.2.2.2.2.2.2.2.2.2.2.2.1,x1.2.2.2.2.2.2.2.2.2.2.2.2.1,x1.2.2.2.2.2.2.2.2.2.2.2.2.2.1),x1.2.2.2.2.2.2.2.2.2.2.2.2.2.2.1,x1.2.2.2.2.2.2.2.2.2.2.2.2.2.2.2.1,x1.2.2.2.2.2.2.2.2.2.2.2.2.2.2.2.2.1,x1.2.2.2.2.2.2.2.2.2.2.2.2.2.2.2.2.2.1,x1.2.2.2.2.2.2.2.2.2.2.2.2.2.2.2.2.2.2.1)).bind λg=>if eqI g.2.2 0 then(Jz 8 x1.2.2.2.2.2.2.2.2.2.2.2.2.2.2.2.2.2.2.2.2.1 [g.2.1]).bind λB=>(J1m (g.1,g.2.2,x1.2.1,x1.2.2.1,x1.2.2.2.1,x1.2.2.2.2.1,x1.2.2.2.2.2.1,x1.2.2.2.2.2.2.1,x1.2.2.2.2.2.2.2.1,x1.2.2.2.2.2.2.2.2.1,x1.2.2.2.2.2.2.2.2.2.1,x1.2.2.2.2.2.2.2.2.2.2.1,x1.2.2.2.2.2.2.2.2.2.2.2.1,x1.2.2.2.2.2.2.2.2.2.2.2.2.1,x1.2.2.2.2.2.2.2.2.2.2.2.2.2.1,x1.2.2.2.2.2.2.2.2.2.2.2.2.2.2.1,x1.2.2.2.2.2.2.2.2.2.2.2.2.2.2.2.1,x1.2.2.2.2.2.2.2.2.2.2.2.2.2.2.2.2.1,x1.2.2.2.2.2.2.2.2.2.2.2.2.2.2.2.2.2.1,x1.2.2.2.2.2.2.2.2.2.2.2.2.2.2.2.2.2.2.1,x1.2.2.2.2.2.2.2.2.2.2.2.2.2.2.2.2.2.2.2.1,B,x1.2.2.2.2.2.2.2.2.2.2.2.2.2.2.2.2.2.2.2.2.2)).bind λj=>some ((j.1.1,g.2.1,j.1.2.2),j.2)else(J1m (g.1,g.2.2,x1.2)).bind λk=>some ((k.1.1,g.2.1,k.1.2.2),k.2)else if eqI x1.1.1 2 then(J4j x1).bind λA=>some A else if eqI x1.1.1 3 then(J8A (((x1.2.1,x1.2.2.1,(x1.2.2.2.1,x1.2.2.2.2.1,x1.2.2.2.2.2.1),(x1.2.2.2.2.2.2.1,x1.2.2.2.2.2.2.2.1,x1.2.2.2.2.2.2.2.2.1),(x1.2.2.2.2.2.2.2.2.2.1,x1.2.2.2.2.2.2.2.2.2.2.1),x1.2.2.2.2.2.2.2.2.2.2.2.1,x1.2.2.2.2.2.2.2.2.2.2.2.2.1,x1.2.2.2.2.2.2.2.2.2.2.2.2.2.1),x1.2.2.2.2.2.2.2.2.2.2.2.2.2.2.1,x1.2.2.2.2.2.2.2.2.2.2.2.2.2.2.2.1,x1.2.2.2.2.2.2.2.2.2.2.2.2.2.2.2.2.1,x1.2.2.2.2.2.2.2.2.2.2.2.2.2.2.2.2.2.1,x1.2.2.2.2.2.2.2.2.2.2.2.2.2.2.2.2.2.2.1),x1.1.2.2.1)).bind λn=>(J1m (n.1,n.2,x1.2)).bind λC=>some C else if eqI x1.1.1 4 then(J5e ((x1.2.1,x1.2.2.1,(x1.2.2.2.1,x1.2.2.2.2.1,x1.2.2.2.2.2.1),(x1.2.2.2.2.2.2.1,x1.2.2.2.2.2.2.2.1,x1.2.2.2.2.2.2.2.2.1),(x1.2.2.2.2.2.2.2.2.2.1,x1.2.2.2.2.2.2.2.2.2.2.1),x1.2.2.2.2.2.2.2.2.2.2.2.1,x1.2.2.2.2.2.2.2.2.2.2.2.2.1,x1.2.2.2.2.2.2.2.2.2.2.2.2.2.1),x1.2.2.2.2.2.2.2.2.2.2.2.2.2.2.1,x1.2.2.2.2.2.2.2.2.2.2.2.2.2.2.2.1,x1.2.2.2.2.2.2.2.2.2.2.2.2.2.2.2.2.1,x1.2.2.2.2.2.2.2.2.2.2.2.2.2.2.2.2.2.1,x1.2.2.2.2.2.2.2.2.2.2.2.2.2.2.2.2.2.2.1)).bind λq=>(J1m (q.1,q.2.2,x1.2)).bind λr=>some r else if eqI x1.1.1 5 then(J3I (x1.2.2.2.1,x1.2.2.2.2.1,x1.2.2.2.2.2.1)).bind λx=>(J2q ((x1.2.2.2.1,x1.2.2.2.2.1,x1.2.2.2.2.2.1),x)).bind λe=>if eqI e.2 0 then(J2v e.2).bind λy=>some (y,x1.2.1,x1.2.2.1,e.1.1,e.1.2.1,e.1.2.2,x1.2.2.2.2.2.2)else(J2v e.2).bind λv=>some (v,x1.2)else if eqI x1.1.1 6 then(J3F x1).bind λo=>some o else if eqI x1.1.1 7 then(Ja5 ((x1.2.1,x1.2.2.1,(x1.2.2.2.1,x1.2.2.2.2.1,x1.2.2.2.2.2.1),(x1.2.2.2.2.2.2.1,x1.2.2.2.2.2.2.2.1,x1.2.2.2.2.2.2.2.2.1),(x1.2.2.2.2.2.2.2.2.2.1,x1.2.2.2.2.2.2.2.2.2.2.1),x1.2.2.2.2.2.2.2.2.2.2.2.1,x1.2.2.2.2.2.2.2.2.2.2.2.2.1,x1.2.2.2.2.2.2.2.2.2.2.2.2.2.1),x1.2.2.2.2.2.2.2.2.2.2.2.2.2.2.1,x1.2.2.2.2.2.2.2.2.2.2.2.2.2.2.2.1,x1.2.2.2.2.2.2.2.2.2.2.2.2.2.2.2.2.1,x1.2.2.2.2.2.2.2.2.2.2.2.2.2.2.2.2.2.1,x1.2.2.2.2.2.2.2.2.2.2.2.2.2.2.2.2.2.2.1)).bind λh=>(J1m (h.1,h.2.2,x1.2)).bind λw=>some w else(Jv 1).bind λz=>some (z,x1.2)
def JkF(z2:TQ0):Option ((TQ0)⊕(JMX)):=if ltI z2.2.1 (J0 z2.1)then if ltI z2.2.1 1000 then if Jo z2.2.2.2.2.2.2.2.2.2.2.2.2.2.2.2.2.2.2.2.2.2.2.2.2.1 then(idx z2.1 z2.2.1).bind λg=>(J3S (g,z2.2.2.2.2.2.2.1,z2.2.2.2.2.2.2.2.1,z2.2.2.2.2.2.2.2.2.1,z2.2.2.2.2.2.2.2.2.2.1,z2.2.2.2.2.2.2.2.2.2.2.1,z2.2.2.2.2.2.2.2.2.2.2.2.1,z2.2.2.2.2.2.2.2.2.2.2.2.2.1,z2.2.2.2.2.2.2.2.2.2.2.2.2.2.1,z2.2.2.2.2.2.2.2.2.2.2.2.2.2.2.1,z2.2.2.2.2.2.2.2.2.2.2.2.2.2.2.2.1,z2.2.2.2.2.2.2.2.2.2.2.2.2.2.2.2.2.1,z2.2.2.2.2.2.2.2.2.2.2.2.2.2.2.2.2.2.1,z2.2.2.2.2.2.2.2.2.2.2.2.2.2.2.2.2.2.2.1,z2.2.2.2.2.2.2.2.2.2.2.2.2.2.2.2.2.2.2.2.1,z2.2.2.2.2.2.2.2.2.2.2.2.2.2.2.2.2.2.2.2.2.1,z2.2.2.2.2.2.2.2.2.2.2.2.2.2.2.2.2.2.2.2.2.2.1,z2.2.2.2.2.2.2.2.2.2.2.2.2.2.2.2.2.2.2.2.2.2.2.1,z2.2.2.2.2.2.2.2.2.2.2.2.2.2.2.2.2.2.2.2.2.2.2.2.1,z2.2.2.2.2.2.2.2.2.2.2.2.2.2.2.2.2.2.2.2.2.2.2.2.2.1,z2.2.2.2.2.1,z2.2.2.2.2.2.1)).bind λe=>(Jz 56 z2.2.2.2.2.2.2.2.2.2.2.2.2.2.2.2.2.2.2.2.2.2.2.2.2.2 [e.1]).bind λh=>some (.inl (z2.1,J1 .i64 z2.2.1 1,z2.2.2.1,z2.2.2.2.1,e.2.2.2.2.2.2.2.2.2.2.2.2.2.2.2.2.2.2.2.2.1,e.2.2.2.2.2.2.2.2.2.2.2.2.2.2.2.2.2.2.2.2.2,e.2.1,e.2.2.1,e.2.2.2.1,e.2.2.2.2.1,e.2.2.2.2.2.1,e.2.2.2.2.2.2.1,e.2.2.2.2.2.2.2.1,e.2.2.2.2.2.2.2.2.1,e.2.2.2.2.2.2.2.2.2.1,e.2.2.2.2.2.2.2.2.2.2.1,e.2.2.2.2.2.2.2.2.2.2.2.1,e.2.2.2.2.2.2.2.2.2.2.2.2.1,e.2.2.2.2.2.2.2.2.2.2.2.2.2.1,e.2.2.2.2.2.2.2.2.2.2.2.2.2.2.1,e.2.2.2.2.2.2.2.2.2.2.2.2.2.2.2.1,e.2.2.2.2.2.2.2.2.2.2.2.2.2.2.2.2.1,e.2.2.2.2.2.2.2.2.2.2.2.2.2.2.2.2.2.1,e.2.2.2.2.2.2.2.2.2.2.2.2.2.2.2.2.2.2.1,e.2.2.2.2.2.2.2.2.2.2.2.2.2.2.2.2.2.2.2.1,h))else some (.inr (((z2.2.2.2.2.2.2.1,z2.2.2.2.2.2.2.2.1,(z2.2.2.2.2.2.2.2.2.1,z2.2.2.2.2.2.2.2.2.2.1,z2.2.2.2.2.2.2.2.2.2.2.1),(z2.2.2.2.2.2.2.2.2.2.2.2.1,z2.2.2.2.2.2.2.2.2.2.2.2.2.1,z2.2.2.2.2.2.2.2.2.2.2.2.2.2.1),(z2.2.2.2.2.2.2.2.2.2.2.2.2.2.2.1,z2.2.2.2.2.2.2.2.2.2.2.2.2.2.2.2.1),z2.2.2.2.2.2.2.2.2.2.2.2.2.2.2.2.2.1,z2.2.2.2.2.2.2.2.2.2.2.2.2.2.2.2.2.2.1,z2.2.2.2.2.2.2.2.2.2.2.2.2.2.2.2.2.2.2.1),z2.2.2.2.2.2.2.2.2.2.2.2.2.2.2.2.2.2.2.2.1,z2.2.2.2.2.2.2.2.2.2.2.2.2.2.2.2.2.2.2.2.2.1,z2.2.2.2.2.2.2.2.2.2.2.2.2.2.2.2.2.2.2.2.2.2.1,z2.2.2.2.2.2.2.2.2.2.2.2.2.2.2.2.2.2.2.2.2.2.2.1,z2.2.2.2.2.2.2.2.2.2.2.2.2.2.2.2.2.2.2.2.2.2.2.2.1),z2.2.2.2.2.2.2.2.2.2.2.2.2.2.2.2.2.2.2.2.2.2.2.2.2.2,z2.2.2.2.2.2.1))else some (.inr (((z2.2.2.2.2.2.2.1,z2.2.2.2.2.2.2.2.1,(z2.2.2.2.2.2.2.2.2.1,z2.2.2.2.2.2.2.2.2.2.1,z2.2.2.2.2.2.2.2.2.2.2.1),(z2.2.2.2.2.2.2.2.2.2.2.2.1,z2.2.2.2.2.2.2.2.2.2.2.2.2.1,z2.2.2.2.2.2.2.2.2.2.2.2.2.2.1),(z2.2.2.2.2.2.2.2.2.2.2.2.2.2.2.1,z2.2.2.2.2.2.2.2.2.2.2.2.2.2.2.2.1),z2.2.2.2.2.2.2.2.2.2.2.2.2.2.2.2.2.1,z2.2.2.2.2.2.2.2.2.2.2.2.2.2.2.2.2.2.1,z2.2.2.2.2.2.2.2.2.2.2.2.2.2.2.2.2.2.2.1),z2.2.2.2.2.2.2.2.2.2.2.2.2.2.2.2.2.2.2.2.1,z2.2.2.2.2.2.2.2.2.2.2.2.2.2.2.2.2.2.2.2.2.1,z2.2.2.2.2.2.2.2.2.2.2.2.2.2.2.2.2.2.2.2.2.2.1,z2.2.2.2.2.2.2.2.2.2.2.2.2.2.2.2.2.2.2.2.2.2.2.1,z2.2.2.2.2.2.2.2.2.2.2.2.2.2.2.2.2.2.2.2.2.2.2.2.1),z2.2.2.2.2.2.2.2.2.2.2.2.2.2.2.2.2.2.2.2.2.2.2.2.2.2,z2.2.2.2.2.2.1))else some (.inr (((z2.2.2.2.2.2.2.1,z2.2.2.2.2.2.2.2.1,(z2.2.2.2.2.2.2.2.2.1,z2.2.2.2.2.2.2.2.2.2.1,z2.2.2.2.2.2.2.2.2.2.2.1),(z2.2.2.2.2.2.2.2.2.2.2.2.1,z2.2.2.2.2.2.2.2.2.2.2.2.2.1,z2.2.2.2.2.2.2.2.2.2.2.2.2.2.1),(z2.2.2.2.2.2.2.2.2.2.2.2.2.2.2.1,z2.2.2.2.2.2.2.2.2.2.2.2.2.2.2.2.1),z2.2.2.2.2.2.2.2.2.2.2.2.2.2.2.2.2.1,z2.2.2.2.2.2.2.2.2.2.2.2.2.2.2.2.2.2.1,z2.2.2.2.2.2.2.2.2.2.2.2.2.2.2.2.2.2.2.1),z2.2.2.2.2.2.2.2.2.2.2.2.2.2.2.2.2.2.2.2.1,z2.2.2.2.2.2.2.2.2.2.2.2.2.2.2.2.2.2.2.2.2.1,z2.2.2.2.2.2.2.2.2.2.2.2.2.2.2.2.2.2.2.2.2.2.1,z2.2.2.2.2.2.2.2.2.2.2.2.2.2.2.2.2.2.2.2.2.2.2.1,z2.2.2.2.2.2.2.2.2.2.2.2.2.2.2.2.2.2.2.2.2.2.2.2.1),z2.2.2.2.2.2.2.2.2.2.2.2.2.2.2.2.2.2.2.2.2.2.2.2.2.2,z2.2.2.2.2.2.1))
def Jbj(x1:Ju×(List J4l)):Option (JMX):=Jf (JkF) (x1.2,0,x1.1,((0,0,(0,[],0),(0,[],0),([],[]),[],[],[]),[],0,[],false,[]),[],[],x1.1.1.1,x1.1.1.2.1,x1.1.1.2.2.1.1,x1.1.1.2.2.1.2.1,x1.1.1.2.2.1.2.2,x1.1.1.2.2.2.1.1,x1.1.1.2.2.2.1.2.1,x1.1.1.2.2.2.1.2.2,x1.1.1.2.2.2.2.1.1,x1.1.1.2.2.2.2.1.2,x1.1.1.2.2.2.2.2.1,x1.1.1.2.2.2.2.2.2.1,x1.1.1.2.2.2.2.2.2.2,x1.1.2.1,x1.1.2.2.1,x1.1.2.2.2.1,x1.1.2.2.2.2.1,x1.1.2.2.2.2.2,false,[])
def J4i(x1:JGu):Option (Ju×Jw):=(Jm (4,x1.2.2)).bind λe=>(Jm (3,e.2)).bind λg=>(Jbo (J1 .i64 1 e.1,J1 .i64 1 g.1)).bind λk=>(J3T (J1 .i64 1 e.1,x1.1,x1.2.1,g.2)).bind λh=>(Jbj (k.1,h.1)).bind λj=>some (j.1,h.2)
def J4T(x1:JGu):Option (J9×Jw):=(J4i x1).bind λe=>some (e.1.1,e.2)
def Jcz(x1:JbV):Option (Int×J04×Jw):=(J4T (x1.1,true,x1.2)).bind λe=>(J3I e.1.2.2.1).bind λg=>(J2q (e.1.2.2.1,g)).bind λh=>some (e.1.1,h.1,e.2)
def J1g(x1:JKA):Option (Int):=if ltI x1.1.2.2.2.2.2.2.1.1 x1.2.2.2.2.2.2.2.1.1=false then if eqI x1.1.2.2.2.2.2.2.1.1 x1.2.2.2.2.2.2.2.1.1 then if ltI x1.1.1 x1.2.1 then some (-1)else if eqI x1.1.2.2.2.2.2.2.1.1 x1.2.2.2.2.2.2.2.1.1 then if eqI x1.1.1 x1.2.1 then some 0 else some 1 else some 1 else if eqI x1.1.2.2.2.2.2.2.1.1 x1.2.2.2.2.2.2.2.1.1 then if eqI x1.1.1 x1.2.1 then some 0 else some 1 else some 1 else some (-1)
def JcR(z2:(List T_api_Entry)×Int×T_api_Entry):Option (((List T_api_Entry)×Int×T_api_Entry)⊕((List T_api_Entry)×Bool)):=if ltI z2.2.1 (J0 z2.1)then(idx z2.1 z2.2.1).bind λI=>(J1g (I,z2.2.2)).bind λN=>if ltI N 0 then some (.inl (z2.1,J1 .i64 z2.2.1 1,z2.2.2))else Option.map .inr (if ltI z2.2.1 (J0 z2.1)then(idx z2.1 z2.2.1).bind λK=>(J1g (K,z2.2.2)).bind λL=>if eqI L 0 then(idx z2.1 z2.2.1).bind λH=>some (z2.1,eqT J4 H z2.2.2)else(J0B z2.1 none (some z2.2.1)).bind λJ=>(J1T 128 J).bind λM=>(Jz 128 M [z2.2.2]).bind λg=>(J0B z2.1 (some z2.2.1) none).bind λE=>(Jz 128 g E).bind λA=>some (A,true)else(J0B z2.1 none (some z2.2.1)).bind λh=>(J1T 128 h).bind λy=>(Jz 128 y [z2.2.2]).bind λn=>(J0B z2.1 (some z2.2.1) none).bind λz=>(Jz 128 n z).bind λr=>some (r,true))else Option.map .inr (if ltI z2.2.1 (J0 z2.1)then(idx z2.1 z2.2.1).bind λv=>(J1g (v,z2.2.2)).bind λx=>if eqI x 0 then(idx z2.1 z2.2.1).bind λw=>some (z2.1,eqT J4 w z2.2.2)else(J0B z2.1 none (some z2.2.1)).bind λj=>(J1T 128 j).bind λD=>(Jz 128 D [z2.2.2]).bind λq=>(J0B z2.1 (some z2.2.1) none).bind λk=>(Jz 128 q k).bind λe=>some (e,true)else(J0B z2.1 none (some z2.2.1)).bind λo=>(J1T 128 o).bind λC=>(Jz 128 C [z2.2.2]).bind λG=>(J0B z2.1 (some z2.2.1) none).bind λF=>(Jz 128 G F).bind λB=>some (B,true))
def J7K(x1:(List T_api_Entry)×T_api_Entry):Option ((List T_api_Entry)×Bool):=Jf (JcR) (x1.1,0,x1.2)
def J1S(x1:Int×Int×T_api_Row):Option (Bool):=if geI x1.1 1 then if leI x1.1 x1.2.1 then if leI x1.2.1 1099511627776 then if geI x1.2.2.1 0 then if leI x1.2.2.1 x1.2.2.2.1 then if ltI x1.2.2.2.1 64 then if geI x1.2.2.2.2 0 then some (leI x1.2.2.2.2 8)else some false else some false else some false else some false else some false else some false else some false
def J6R(z3:Int×JC):Option ((Int×JC)⊕Bool):=if ltI z3.1 (J0 z3.2.2.2.2.2.2)then(idx z3.2.2.2.2.2.2 z3.1).bind λe=>(J09 e).bind λq=>if Jo q=false then(JM e).bind λn=>if Jo n=false then if ltI e.1 z3.2.1=false then if gtI e.1 z3.2.2.1=false then if ltI e.2.2.2.2.2.2.1.1 z3.2.2.2.1=false then if gtI e.2.2.2.2.2.2.1.1 z3.2.2.2.2.1 then some (.inr false)else if gtI z3.1 0 then(idx z3.2.2.2.2.2.2 (JF .i64 z3.1 1)).bind λk=>(J1g (k,e)).bind λr=>if geI r 0 then some (.inr false)else if gtI z3.1 0 then(idx z3.2.2.2.2.2.2 (JF .i64 z3.1 1)).bind λo=>if eqI o.2.2.2.2.2.2.1.1 e.2.2.2.2.2.2.1.1 then(idx z3.2.2.2.2.2.2 (JF .i64 z3.1 1)).bind λg=>if neI e.2.2.2.2.1 g.1 then some (.inr false)else some (.inl (J1 .i64 z3.1 1,z3.2))else if geI e.2.2.2.2.1 z3.2.1 then some (.inr false)else some (.inl (J1 .i64 z3.1 1,z3.2))else if geI e.2.2.2.2.1 z3.2.1 then some (.inr false)else some (.inl (J1 .i64 z3.1 1,z3.2))else if gtI z3.1 0 then(idx z3.2.2.2.2.2.2 (JF .i64 z3.1 1)).bind λj=>if eqI j.2.2.2.2.2.2.1.1 e.2.2.2.2.2.2.1.1 then(idx z3.2.2.2.2.2.2 (JF .i64 z3.1 1)).bind λh=>if neI e.2.2.2.2.1 h.1 then some (.inr false)else some (.inl (J1 .i64 z3.1 1,z3.2))else if geI e.2.2.2.2.1 z3.2.1 then some (.inr false)else some (.inl (J1 .i64 z3.1 1,z3.2))else if geI e.2.2.2.2.1 z3.2.1 then some (.inr false)else some (.inl (J1 .i64 z3.1 1,z3.2))else some (.inr false)else some (.inr false)else some (.inr false)else some (.inr false)else some (.inr false)else some (.inr true)
def J1x(x1:JC):Option (Bool):=(J1S (x1.1,x1.2.1,x1.2.2.1,x1.2.2.2.1,x1.2.2.2.2.1)).bind λe=>if Jo e=false then if gtI (J0 x1.2.2.2.2.2) 4096 then some false else Jf (J6R) (0,x1)else some false
def JaD(e:JNh):Option ((JNh)⊕((JJf)⊕(Jes))):=if ltI e.2.2.2.2.2.2.2.1 (J0 e.2.2.2.2.2.2.2.2.2.1.2.2.2.2.2)then if e.2.2.2.2.2.1=false then(idx e.2.2.2.2.2.2.2.2.2.1.2.2.2.2.2 e.2.2.2.2.2.2.2.1).bind λg=>if eqI g.1 e.2.2.2.2.2.2.2.2.2.2.1 then(idx e.2.2.2.2.2.2.2.2.2.1.2.2.2.2.2 e.2.2.2.2.2.2.2.1).bind λj=>some (.inl (e.1,e.2.1,e.2.2.1,e.2.2.2.1,e.2.2.2.2.1,Jo (eqT J4 j e.2.2.2.2.2.2.2.2.2.2),e.2.2.2.2.2.2.1,J1 .i64 e.2.2.2.2.2.2.2.1 1,e.2.2.2.2.2.2.2.2))else some (.inl (e.1,e.2.1,e.2.2.1,e.2.2.2.1,e.2.2.2.2.1,false,e.2.2.2.2.2.2.1,J1 .i64 e.2.2.2.2.2.2.2.1 1,e.2.2.2.2.2.2.2.2))else some (.inl (e.1,e.2.1,e.2.2.1,e.2.2.2.1,e.2.2.2.2.1,true,e.2.2.2.2.2.2.1,J1 .i64 e.2.2.2.2.2.2.2.1 1,e.2.2.2.2.2.2.2.2))else Option.map .inr ((J7K (e.2.2.2.2.2.2.2.2.2.1.2.2.2.2.2,e.2.2.2.2.2.2.2.2.2.2)).bind λh=>some (.inl (e.1,e.2.1,e.2.2.1,e.2.2.2.1,e.2.2.2.2.1,e.2.2.2.2.2.1,J1 .i64 e.2.2.2.2.2.2.1 1,e.2.2.2.2.2.2.2.2.1,e.2.2.2.2.2.2.2.2.2.1.1,e.2.2.2.2.2.2.2.2.2.1.2.1,e.2.2.2.2.2.2.2.2.2.1.2.2.1,e.2.2.2.2.2.2.2.2.2.1.2.2.2.1,e.2.2.2.2.2.2.2.2.2.1.2.2.2.2.1,h.1)))
def JaX(e:JJf):Option ((JJf)⊕(Jes)):=if ltI e.2.2.2.2.2.2.1 (J0 e.1)then(idx e.1 e.2.2.2.2.2.2.1).bind λg=>(JM g).bind λj=>if Jo j=false then if ltI g.2.2.2.2.2.2.1.1 e.2.2.2.1=false then if gtI g.2.2.2.2.2.2.1.1 e.2.2.2.2.1=false then if ltI g.1 e.2.1=false then if gtI g.1 e.2.2.1 then some (.inl (e.1,e.2.1,e.2.2.1,e.2.2.2.1,e.2.2.2.2.1,e.2.2.2.2.2.1,J1 .i64 e.2.2.2.2.2.2.1 1,e.2.2.2.2.2.2.2))else Jf (JaD) (e.1,e.2.1,e.2.2.1,e.2.2.2.1,e.2.2.2.2.1,e.2.2.2.2.2.1,e.2.2.2.2.2.2.1,0,e.2.2.2.2.2.2.2.1,e.2.2.2.2.2.2.2.2,g)else some (.inl (e.1,e.2.1,e.2.2.1,e.2.2.2.1,e.2.2.2.2.1,e.2.2.2.2.2.1,J1 .i64 e.2.2.2.2.2.2.1 1,e.2.2.2.2.2.2.2))else some (.inl (e.1,e.2.1,e.2.2.1,e.2.2.2.1,e.2.2.2.2.1,e.2.2.2.2.2.1,J1 .i64 e.2.2.2.2.2.2.1 1,e.2.2.2.2.2.2.2))else some (.inl (e.1,e.2.1,e.2.2.1,e.2.2.2.1,e.2.2.2.2.1,e.2.2.2.2.2.1,J1 .i64 e.2.2.2.2.2.2.1 1,e.2.2.2.2.2.2.2))else some (.inl (e.1,e.2.1,e.2.2.1,e.2.2.2.1,e.2.2.2.2.1,e.2.2.2.2.2.1,J1 .i64 e.2.2.2.2.2.2.1 1,e.2.2.2.2.2.2.2))else Option.map .inr (if e.2.2.2.2.2.1 then some ((0,0,0,0,0,[]),41)else if gtI (J0 e.2.2.2.2.2.2.2.2.2.2.2.2.2) 4096 then some ((0,0,0,0,0,[]),21)else(J1x e.2.2.2.2.2.2.2.2).bind λh=>if Jo h then some ((0,0,0,0,0,[]),13)else some (e.2.2.2.2.2.2.2.2,0))
def JaF(z3:JNp):Option ((JNp)⊕(Jes)):=if ltI z3.2.2.2.2.2.2.1 (J0 z3.1)then(idx z3.1 z3.2.2.2.2.2.2.1).bind λe=>(J09 e).bind λg=>if Jo g then some (.inr ((0,0,0,0,0,[]),12))else some (.inl (z3.1,z3.2.1,z3.2.2.1,z3.2.2.2.1,z3.2.2.2.2.1,z3.2.2.2.2.2.1,J1 .i64 z3.2.2.2.2.2.2.1 1,z3.2.2.2.2.2.2.2))else Option.map .inr (Jf (JaX) (z3.1,z3.2.1,z3.2.2.1,z3.2.2.2.1,z3.2.2.2.2.1,false,0,z3.2.2.2.2.2.2.2,z3.2.1,z3.2.2.1,z3.2.2.2.1,z3.2.2.2.2.1,z3.2.2.2.2.2.1,[]))
def J3c(x1:JJe):Option (Jes):=(J1S x1.2).bind λe=>if Jo e then some ((0,0,0,0,0,[]),1)else Jf (JaF) (x1.1,x1.2.1,x1.2.2.1,x1.2.2.2.1,x1.2.2.2.2.1,x1.2.2.2.2.2,0,0,0,0,0,0,[])
def J3j(x1:Jw):Option (JNO):=(Jcz (30,x1)).bind λj=>(Jm (3,j.2.2)).bind λe=>(Jm (4,e.2)).bind λk=>(Jm (15,k.2)).bind λg=>(Jm (15,g.2)).bind λh=>(Jm (3,h.2)).bind λo=>(J3c (j.2.1.2.1,1,J1 .i64 1 g.1,e.1,J1 .i64 e.1 k.1,o.1)).bind λw=>(Jm (3,o.2)).bind λq=>(J3c (j.2.1.2.1,J1 .i64 (J1 .i64 1 g.1) 1,J1 .i64 (J1 .i64 (J1 .i64 1 g.1) 1) h.1,e.1,J1 .i64 e.1 k.1,q.1)).bind λr=>(Jm (9,q.2)).bind λn=>(J3c (j.2.1.2.1,J1 .i64 (J1 .i64 (J1 .i64 (J1 .i64 1 g.1) 1) h.1) 1,J1 .i64 (J1 .i64 (J1 .i64 (J1 .i64 1 g.1) 1) h.1) 20,e.1,J1 .i64 e.1 k.1,n.1)).bind λv=>some (w.1,r.1,v.1,n.2)
def Jcv(e:JNe):Option ((JNe)⊕Bool):=if leI e.2.1 8 then(J2z ((e.2.2.2.1.1,e.2.2.2.1.2.1,e.2.2.2.1.2.2.1,e.2.2.2.1.2.2.2.1,e.2.1,e.2.2.2.1.2.2.2.2.2),e.2.2.2.2.1)).bind λg=>if eqI e.2.1 8 then if neI g.2 21=false then if ltI e.2.1 8 then if neI g.2 0=false then if neI g.1.2.2.2.2.1 (J1 .i64 e.2.1 1)=false then if neI (J0 g.1.2.2.2.2.2) (J1 .i64 (J0 e.2.2.2.1.2.2.2.2.2) (J0 e.2.2.2.2.1.2.2.2.2.2))then some (.inr false)else some (.inl (e.1,J1 .i64 e.2.1 1,e.2.2.1,(e.2.2.2.1.1,e.2.2.2.1.2.1,e.2.2.2.1.2.2.1,e.2.2.2.1.2.2.2.1,e.2.1,e.2.2.2.1.2.2.2.2.2),e.2.2.2.2))else some (.inr false)else some (.inr false)else some (.inl (e.1,J1 .i64 e.2.1 1,e.2.2.1,(e.2.2.2.1.1,e.2.2.2.1.2.1,e.2.2.2.1.2.2.1,e.2.2.2.1.2.2.2.1,e.2.1,e.2.2.2.1.2.2.2.2.2),e.2.2.2.2))else some (.inr false)else if ltI e.2.1 8 then if neI g.2 0=false then if neI g.1.2.2.2.2.1 (J1 .i64 e.2.1 1)=false then if neI (J0 g.1.2.2.2.2.2) (J1 .i64 (J0 e.2.2.2.1.2.2.2.2.2) (J0 e.2.2.2.2.1.2.2.2.2.2))then some (.inr false)else some (.inl (e.1,J1 .i64 e.2.1 1,e.2.2.1,(e.2.2.2.1.1,e.2.2.2.1.2.1,e.2.2.2.1.2.2.1,e.2.2.2.1.2.2.2.1,e.2.1,e.2.2.2.1.2.2.2.2.2),e.2.2.2.2))else some (.inr false)else some (.inr false)else some (.inl (e.1,J1 .i64 e.2.1 1,e.2.2.1,(e.2.2.2.1.1,e.2.2.2.1.2.1,e.2.2.2.1.2.2.1,e.2.2.2.1.2.2.2.1,e.2.1,e.2.2.2.1.2.2.2.2.2),e.2.2.2.2))else Option.map .inr ((J2z (e.2.2.2.2.1,e.2.2.2.1)).bind λk=>(J8X e.2.2.2.1).bind λh=>(J2z (h,J1 .i64 (J1 .i64 e.2.2.2.2.1.1 1) (cvI .i64 e.1),J1 .i64 (J1 .i64 e.2.2.2.2.1.2.1 1) (cvI .i64 e.1),e.2.2.2.2.1.2.2.1,e.2.2.2.2.1.2.2.2.1,e.2.2.2.2.1.2.2.2.2.1,[])).bind λj=>if eqI k.2 41 then some (eqI j.2 41)else some false)
def Jee(x1:J8T):Option (Bool):=(J53 ()).bind λj=>if Jo j then some false else(J5g (x1.1,400)).bind λh=>(J3j h).bind λe=>(J8X e.1).bind λk=>(J8X e.2.1).bind λg=>Jf (Jcv) (x1.2,0,e.2.2.2,k,g,e.2.2.1)
def J0e(x:List T_api_Entry):Option (List T_api_Entry):=J1T 128 x
def J60(x1:JjJ):Option (Bool×Int):=some (geI x1.1.2.2.2.2.2.2.1.1 x1.2,x1.2)
def J2Q(z2:(List T_api_Entry)×T_api_Row):Option (((List T_api_Entry)×T_api_Row)⊕JG):=if ltI z2.2.2.1 z2.2.1 then(idx z2.1 z2.2.2.1).bind λg=>(J60 (g,z2.2.2.2)).bind λe=>if e.1 then some (.inr (z2.2.2.1,e.2))else some (.inl (z2.1,z2.2.1,J1 .i64 z2.2.2.1 1,e.2))else some (.inr ((-1),z2.2.2.2))
def J19(x1:JCJ):Option (JG):=Jf (J2Q) (x1.1,J0 x1.1,0,x1.2)
def J5D(x1:Jes):Option (JOL):=(J3H x1.1).bind λo=>if Jo o then some ((0,0,0,0,0,[]),(0,0,0,0,0,[]),40)else if leI x1.2 x1.1.2.2.1=false then if gtI x1.2 x1.1.2.2.2.1 then some ((0,0,0,0,0,[]),(0,0,0,0,0,[]),1)else(J19 (x1.1.2.2.2.2.2,x1.2)).bind λe=>if ltI e.1 0 then(J0B x1.1.2.2.2.2.2 none (some (J0 x1.1.2.2.2.2.2))).bind λr=>(J0e r).bind λv=>(J0B x1.1.2.2.2.2.2 (some (J0 x1.1.2.2.2.2.2)) none).bind λk=>(J0e k).bind λj=>some ((x1.1.1,x1.1.2.1,x1.1.2.2.1,JF .i64 e.2 1,x1.1.2.2.2.2.1,v),(x1.1.1,x1.1.2.1,e.2,x1.1.2.2.2.1,x1.1.2.2.2.2.1,j),0)else(J0B x1.1.2.2.2.2.2 none (some e.1)).bind λq=>(J0e q).bind λn=>(J0B x1.1.2.2.2.2.2 (some e.1) none).bind λg=>(J0e g).bind λh=>some ((x1.1.1,x1.1.2.1,x1.1.2.2.1,JF .i64 e.2 1,x1.1.2.2.2.2.1,n),(x1.1.1,x1.1.2.1,e.2,x1.1.2.2.2.1,x1.1.2.2.2.2.1,h),0)else some ((0,0,0,0,0,[]),(0,0,0,0,0,[]),1)
def J96(z2:JMN):Option ((JMN)⊕Bool):=if ltI z2.2.2 (J0 z2.1)then(idx z2.1 z2.2.2).bind λe=>(idx z2.2.1 z2.2.2).bind λg=>if Jo (eqT J4 e g)then some (.inr false)else some (.inl (z2.1,z2.2.1,J1 .i64 z2.2.2 1))else some (.inr true)
def J2E(x1:JNN):Option (Bool):=if neI (J0 x1.1) (J0 x1.2)then some false else Jf (J96) (x1.1,x1.2,0)
def JdE(z3:JMT):Option ((JMT)⊕(List T_api_Entry)):=if ltI z3.2.1 (J0 z3.2.2.1.2.2.2.2.2)then(idx z3.2.2.1.2.2.2.2.2 z3.2.1).bind λe=>if eqI e.2.2.2.2.2.2.1.1 z3.1 then(idx z3.2.2.1.2.2.2.2.2 z3.2.1).bind λg=>(Jz 128 z3.2.2.2 [g]).bind λh=>some (.inl (z3.1,J1 .i64 z3.2.1 1,z3.2.2.1,h))else some (.inl (z3.1,J1 .i64 z3.2.1 1,z3.2.2))else some (.inr z3.2.2.2)
def J2T(x1:Jes):Option (List T_api_Entry):=(J1x x1.1).bind λe=>if Jo e then some []else Jf (JdE) (x1.2,0,x1.1,[])
def J6J(e:JNy):Option ((JNy)⊕Bool):=if leI e.2.2.1 e.2.2.2.2.1.2.2.2.1 then if geI e.2.2.1 e.1 then(J2T (e.2.2.2.2.2.2.2.2,e.2.2.1)).bind λo=>(J2T (e.2.2.2.2.1,e.2.2.1)).bind λn=>(J2E (o,n)).bind λg=>if Jo g then some (.inr false)else some (.inl (e.1,e.2.1,J1 .i64 e.2.2.1 1,e.2.2.2))else(J2T (e.2.2.2.2.2.2.2.1,e.2.2.1)).bind λj=>(J2T (e.2.2.2.2.1,e.2.2.1)).bind λh=>(J2E (j,h)).bind λk=>if Jo k then some (.inr false)else some (.inl (e.1,e.2.1,J1 .i64 e.2.2.1 1,e.2.2.2))else Option.map .inr (if eqI e.2.1 0 then some (eqI (J1 .i64 (J0 e.2.2.2.2.2.2.2.1.2.2.2.2.2) (J0 e.2.2.2.2.2.2.2.2.2.2.2.2.2)) (J0 e.2.2.2.2.1.2.2.2.2.2))else some false)
def J3s(x1:J8T):Option (Bool):=(J53 ()).bind λk=>if Jo k then some false else(J5g (x1.1,400)).bind λj=>(J3j j).bind λe=>if eqI e.1.2.2.1 e.1.2.2.2.1 then some true else(Jjm (cvI .i64 x1.2) (JF .i64 e.1.2.2.2.1 e.1.2.2.1)).bind λh=>(J5D (e.1,J1 .i64 (J1 .i64 e.1.2.2.1 1) h)).bind λg=>Jf (J6J) (J1 .i64 (J1 .i64 e.1.2.2.1 1) h,g.2.2,e.1.2.2.1,e.2.2.2,e.1,e.2.1,e.2.2.1,g.1,g.2.1)
end
end Go.Am
end
section
namespace Go.Am
def Tot{ρ:Type}(o:Option ρ)(Q:ρ->Prop):Prop:= ∃r,o=some r/\Q r
section
variable {α β ρ σ τ:Type} {Q:ρ->Prop}
theorem Tot.bind{P:α->Prop}{o:Option α}{f:α->Option ρ}(h:Tot o P)(h2: ∀r,P r->Tot (f r) Q):Tot (o.bind f) Q:=by obtain⟨r,rfl,hq⟩:=h;exact h2 r hq
theorem Tot.some{r:ρ}(h:Q r):Tot (some r) Q:=⟨r,rfl,h⟩
theorem Tot.mono{P:ρ->Prop}{o:Option ρ}(h:Tot o P)(h2: ∀r,P r->Q r):Tot o Q:=by obtain⟨r,e,hq⟩:=h;exact⟨r,e,h2 r hq⟩
theorem Tot.map{P:α->Prop}{o:Option α}{f:α->ρ}(h:Tot o P)(h2: ∀r,P r->Q (f r)):Tot (Option.map f o) Q:=by obtain⟨r,rfl,hq⟩:=h;exact⟨f r,rfl,h2 r hq⟩
theorem Tot.get{o:Option ρ}{r:ρ}(h:Tot o Q)(e:o=Option.some r):Q r:=by obtain⟨r',e',h⟩:=h;rw[e]at e';injection e' with e';subst e';exact h
variable {u v:Option ρ}
theorem Tot.ite{c:Bool}(h1:c=true->Tot u Q)(h2:c=false->Tot v Q):Tot (if c=true then u else v) Q:=by
 cases c with
 |true=>exact h1 rfl
 |false=>exact h2 rfl
theorem Tot.itf{c:Bool}(h1:c=false->Tot u Q)(h2:c=true->Tot v Q):Tot (if c=false then u else v) Q:=by
 cases c with
 |true=>exact h2 rfl
 |false=>exact h1 rfl
theorem Tot.not{c:Bool}(h1:c=false->Tot u Q)(h2:c=true->Tot v Q):Tot (if Jo c=true then u else v) Q:=by
 cases c with
 |true=>exact h2 rfl
 |false=>exact h1 rfl
theorem Tot.nof{c:Bool}(h1:c=true->Tot u Q)(h2:c=false->Tot v Q):Tot (if Jo c=false then u else v) Q:=by
 cases c with
 |true=>exact h1 rfl
 |false=>exact h2 rfl
variable {a c:Int}
theorem J7P:ltI a c=true↔a<c:=by simp[ltI]
theorem JaC:gtI a c=true↔c<a:=by simp[gtI]
theorem J2D:leI a c=true↔a<=c:=by simp[leI]
theorem JcN:geI a c=true↔c<=a:=by simp[geI]
theorem J5K:eqI a c=true↔a=c:=by simp[eqI]
theorem JoU:neI a c=true↔ ¬a=c:=by simp[neI]
theorem Tot.by{p:Prop}{x:Bool}(hp:x=true↔p)(h1:p->Tot u Q)(h2: ¬p->Tot v Q):Tot (if x=true then u else v) Q:=.ite (λh=>h1 (hp.1 h)) λh=>h2 λh3=>by rw[hp.2 h3]at h;cases h
theorem Tot.byf{p:Prop}{x:Bool}(hp:x=true↔p)(h1: ¬p->Tot u Q)(h2:p->Tot v Q):Tot (if x=false then u else v) Q:=.itf (λh=>h1 λh3=>by rw[hp.2 h3]at h;cases h) λh=>h2 (hp.1 h)
theorem Tot.lt(h1:a<c->Tot u Q)(h2: ¬a<c->Tot v Q):Tot (if ltI a c=true then u else v) Q:=.by J7P h1 h2
theorem Tot.gt(h1:c<a->Tot u Q)(h2: ¬c<a->Tot v Q):Tot (if gtI a c=true then u else v) Q:=.by JaC h1 h2
theorem Tot.le(h1:a<=c->Tot u Q)(h2: ¬a<=c->Tot v Q):Tot (if leI a c=true then u else v) Q:=.by J2D h1 h2
theorem Tot.ge(h1:c<=a->Tot u Q)(h2: ¬c<=a->Tot v Q):Tot (if geI a c=true then u else v) Q:=.by JcN h1 h2
theorem Tot.eq(h1:a=c->Tot u Q)(h2: ¬a=c->Tot v Q):Tot (if eqI a c=true then u else v) Q:=.by J5K h1 h2
theorem Tot.ne(h1: ¬a=c->Tot u Q)(h2:a=c->Tot v Q):Tot (if neI a c=true then u else v) Q:=.by JoU h1 (λh=>h2 (Decidable.of_not_not h))
theorem Tot.ltf(h1: ¬a<c->Tot u Q)(h2:a<c->Tot v Q):Tot (if ltI a c=false then u else v) Q:=.byf J7P h1 h2
theorem Tot.gtf(h1: ¬c<a->Tot u Q)(h2:c<a->Tot v Q):Tot (if gtI a c=false then u else v) Q:=.byf JaC h1 h2
theorem Tot.lef(h1: ¬a<=c->Tot u Q)(h2:a<=c->Tot v Q):Tot (if leI a c=false then u else v) Q:=.byf J2D h1 h2
theorem Tot.gef(h1: ¬c<=a->Tot u Q)(h2:c<=a->Tot v Q):Tot (if geI a c=false then u else v) Q:=.byf JcN h1 h2
theorem Tot.eqf(h1: ¬a=c->Tot u Q)(h2:a=c->Tot v Q):Tot (if eqI a c=false then u else v) Q:=.byf J5K h1 h2
theorem Tot.nef(h1:a=c->Tot u Q)(h2: ¬a=c->Tot v Q):Tot (if neI a c=false then u else v) Q:=.byf JoU (λh=>h1 (Decidable.of_not_not h)) h2
end
def Ty.fit(B S:Int):(t:Ty)->t.D->Prop
 | .b,_=>True
 | .i k,z=>k.min<=z/\z<=k.max
 | .s,z=>J0 (α:=UInt8) z<=S
 | .l t,z=>J0 (α:=t.D) z<=B/\ ∀x∈(z:List t.D),t.fit B S x
 | .pr a c,x=>a.fit B S x.1/\c.fit B S x.2
 | .ar n t,v=> ∀(i:Nat) (h:i<n),t.fit B S ((v:Vector t.D n)[i])
 | .u,_=>True
 | .f,_=>True
theorem Ty.fit.up{B S g e:Int}(h1:B<=g)(h2:S<=e): ∀{t:Ty} {x:t.D},t.fit B S x->t.fit g e x
 | .b,_,_=>trivial
 | .i _,_,h=>h
 | .s,_,h=>JcS h h2
 | .l _,_,h=>⟨JcS h.1 h1,λx hx=>(h.2 x hx).up h1 h2⟩
 | .pr _ _,_,h=>⟨h.1.up h1 h2,h.2.up h1 h2⟩
 | .ar _ _,_,h=>λi hi=>(h i hi).up h1 h2
 | .u,_,_=>trivial
 | .f,_,_=>trivial
section
variable {α:Type} {l:List α}
theorem J3:0<=J0 l:=Int.natCast_nonneg _
theorem JjR:J0 ([]:List α)=0:=rfl
theorem Jdv{x:α}:J0 [x]=1:=rfl
theorem Jjo{m:List α}:J0 (l++m)=J0 l+J0 m:=by simp[J0]
end
theorem JnL(n:Int):IntKind.i64.wrap n=(n+9223372036854775808)%18446744073709551616-9223372036854775808:=by simp[IntKind.wrap,IntKind.bits,IntKind.signed];omega
theorem J7s(k:IntKind)(n:Int):k.min<=k.wrap n/\k.wrap n<=k.max:=by cases k<;>simp[IntKind.wrap,IntKind.min,IntKind.max,IntKind.bits,IntKind.signed]<;>omega
theorem Jh(a b:Int):J1 .i64 a b=(a+b+9223372036854775808)%18446744073709551616-9223372036854775808:=JnL _
theorem J0E(a b:Int):JF .i64 a b=(a-b+9223372036854775808)%18446744073709551616-9223372036854775808:=JnL _
theorem JKS(a b:Int):J32 .i64 a b=(a*b+9223372036854775808)%18446744073709551616-9223372036854775808:=JnL _
theorem JFO(a:Int):cvI .i64 a=(a+9223372036854775808)%18446744073709551616-9223372036854775808:=JnL _
section
variable {B S:Int} {k:IntKind} {a b:Int}
theorem J2:Ty.fit B S (.i .i64) a↔ -9223372036854775808<=a/\a<=9223372036854775807:=by simp[Ty.fit,IntKind.min,IntKind.max,IntKind.signed,IntKind.bits]
theorem JfF(k:IntKind)(n:Int)(h:k.min<=n/\n<=k.max:=by decide):Ty.fit B S (.i k) n:=h
theorem J5:Ty.fit B S (.i k) (J1 k a b):=J7s _ _
theorem J1O:Ty.fit B S (.i k) (JF k a b):=J7s _ _
theorem JLj:Ty.fit B S (.i k) (J32 k a b):=J7s _ _
theorem JbJ:Ty.fit B S (.i k) (cvI k a):=J7s _ _
theorem cvu(k:IntKind)(a:Int)(h:k.min=0:=by rfl):0<=cvI k a:=by have:=(J7s k a).1;rw[h]at this;exact this
theorem JMt:Ty.fit B S (.i k) (orI k a b):=J7s _ _
theorem JEW:Ty.fit B S (.i k) (Jgo k a b):=J7s _ _
theorem JMa:Ty.fit B S (.i k) (JIZ k a):=J7s _ _
theorem JLt(ha:Ty.fit B S (.i k) a)(hb:Ty.fit B S (.i k) b):Ty.fit B S (.i k) (JaE a b):=by
 unfold JaE;split
 ·exact hb
 ·exact ha
theorem J3Q(ha:Ty.fit B S (.i k) a)(hb:Ty.fit B S (.i k) b):Ty.fit B S (.i k) (J31 a b):=by
 unfold J31;split
 ·exact hb
 ·exact ha
theorem J3N{α:Type}{l:List α}{n:Int}(h:J0 l<=n)(hn:n<=9223372036854775807):Ty.fit B S (.i .i64) (J0 l):=by have:=J3 (l:=l);rw[J2];omega
theorem Ja{t:Ty}(e:0<=B:=by omega):Ty.fit B S (.l t) ([]:List t.D):=⟨e,λ_ h=>by cases h⟩
theorem J0d{t:Ty}{x:t.D}(e:1<=B)(h:t.fit B S x):Ty.fit B S (.l t) ([x]:List t.D):=⟨e,λy hy=>by
 obtain rfl:y=x:=by simpa using hy
 exact h⟩
theorem J0O{t:Ty}{x:t.D}{l:List t.D}(e:J0 (x::l)<=B)(h:t.fit B S x)(hl:Ty.fit B S (.l t) l):Ty.fit B S (.l t) (x::l):=⟨e,λy hy=>by
 rcases J3f.1 hy with rfl|hy
 ·exact h
 ·exact hl.2 y hy⟩
theorem JBE:Ty.fit B S (.i .u8) a↔0<=a/\a<=255:=by simp[Ty.fit,IntKind.min,IntKind.max,IntKind.signed,IntKind.bits]
theorem J0c(g:0<=B)(e:0<=S): ∀t:Ty,t.fit B S t.zero
 | .b=>trivial
 | .i k=>by cases k<;>simp[Ty.fit,Ty.zero,IntKind.min,IntKind.max,IntKind.signed,IntKind.bits]
 | .s=>e
 | .l _=>Ja g
 | .pr a c=>⟨J0c g e a,J0c g e c⟩
 | .ar n t=>λi hi=>by
   show t.fit B S ((Vector.replicate n t.zero)[i]);rw[Vector.getElem_replicate];exact J0c g e t
 | .u=>trivial
 | .f=>trivial
end
theorem Jj{B S:Int}{t:Ty}{l:List t.D}(_:Ty.fit B S (.l t) l): @J0 t.D l= @J0 t.D l:=rfl
section
variable {B S:Int} {t:Ty}
theorem Ji{l:List t.D}{i:Int}(h:Ty.fit B S (.l t) l)(g:0<=i:=by omega)(h1:i<J0 l:=by omega):Tot (idx l i) λr=>t.fit B S r/\r∈l:=by
 have e:i.toNat<l.length:=by unfold J0 at h1;omega
 refine⟨l[i.toNat],?_,h.2 _ (JdZ e),JdZ e⟩;unfold idx;rw[if_pos g,JD e]
theorem JjH{n bytes:Nat}(h:(n:Int)<=34359738368)(hb:bytes<=2048):J7S n bytes=true:=by unfold J7S;rw[decide_eq_true_eq];have:(2*n+512)*bytes<=(2*34359738368+512)*2048:=Nat.mul_le_mul (by omega) hb;omega
theorem J0n{bytes:Nat}{l m:List t.D}{Bl Bm:Int}(k n:Int)(hl:Ty.fit Bl S (.l t) l)(hm:Ty.fit Bm S (.l t) m)(hk:J0 l=k:=by rfl)(hn:J0 m=n:=by rfl)(h1:Bl<=B:=by omega)(h2:Bm<=B:=by omega)(h3:k+n<=B:=by omega)(e:B<=34359738368:=by omega)(hb:bytes<=2048:=by decide):
  Tot (Jz bytes l m) λr=>Ty.fit B S (.l t) r/\J0 r=k+n/\r=l++m:=by
 subst hn hk;refine⟨l++m,?_,⟨by rw[Jjo];exact h3,λx hx=>?_⟩,Jjo,rfl⟩
 ·unfold Jz;rw[if_pos (JjH (by unfold J0 at h3;omega) hb)]
 ·rcases J1U.1 hx with h|h
  ·exact(hl.2 x h).up h1 (J0G _)
  ·exact(hm.2 x h).up h2 (J0G _)
theorem Jt6{bytes:Nat}{l:List t.D}(hl:Ty.fit B S (.l t) l)(e:B<=34359738368)(hb:bytes<=2048):Tot (J1T bytes l) λr=>r=l:=by refine⟨l,?_,rfl⟩;unfold J1T;rw[if_pos (JjH (by have:=hl.1;unfold J0 at this;omega) hb)]
theorem JB8{α:Type}{l:List α}{k:Int}(e:0<=k)(h1:k<=J0 l):Tot (J0B l none (some k)) λr=>r=l.take k.toNat/\J0 r=k:=by
 refine⟨l.take k.toNat,?_,rfl,?_⟩
 ·unfold J0B Jqu JtX;unfold J0 at h1;simp only[if_pos (And.intro e h1)];simp
 ·unfold J0 at*;rw[JaB];omega
theorem JrK{α:Type}{l:List α}{k:Int}(e:0<=k)(h1:k<=J0 l):Tot (J0B l (some k) none) λr=>r=l.drop k.toNat/\J0 r=J0 l-k:=by
 refine⟨l.drop k.toNat,?_,rfl,?_⟩
 ·unfold J0B Jqu JtX;unfold J0 at h1;simp only[if_pos (And.intro e h1)];rw[List.take_of_length_le];simp
 ·unfold J0 at*;rw[JaH];omega
theorem JMQ{α:Type}{l:List α}{j k:Int}(g:0<=j)(h2:j<=k)(h1:k<=J0 l):Tot (J0B l (some j) (some k)) λr=>r=(l.drop j.toNat).take (k-j).toNat/\J0 r=k-j:=by
 refine⟨(l.drop j.toNat).take (k-j).toNat,?_,rfl,?_⟩
 ·unfold J0B Jqu JtX;unfold J0 at h1;have hk:0<=k:=by omega
  have e:j<=(k.toNat:Int):=by omega
  simp only[if_pos (And.intro hk h1),if_pos (And.intro g e)];have:k.toNat-j.toNat=(k-j).toNat:=by omega
  rw[this]
 ·unfold J0 at*;rw[JaB,JaH];omega
theorem JJh{l:List t.D}{n:Nat}(h:Ty.fit B S (.l t) l):Ty.fit B S (.l t) (l.take n):=⟨by have:=h.1;unfold J0 at*;rw[JaB];omega,λx hx=>h.2 x (JHq hx)⟩
theorem JJW{l:List t.D}{n:Nat}(h:Ty.fit B S (.l t) l):Ty.fit B S (.l t) (l.drop n):=⟨by have:=h.1;unfold J0 at*;rw[JaH];omega,λx hx=>h.2 x (JGZ hx)⟩
theorem J66{a b:List UInt8}(h:J0 a+J0 b<=4611686018427387904:=by omega):Tot (J62 a b) λr=>J0 r=J0 a+J0 b/\r=a++b:=by refine⟨a++b,?_,Jjo,rfl⟩;unfold J62;unfold J0 at h;rw[if_pos (by omega)]
theorem JAh{bytes:Nat}{n m:Int}{z:t.D}(hz:t.fit B S z)(e:0<=n:=by omega)(h1:n<=m:=by omega)(h2:m<=34359738368:=by omega)(hn:n<=B:=by omega)(hb:bytes<=2048:=by decide):Tot (mkS bytes n m z) λr=>Ty.fit B S (.l t) r/\J0 r=n:=by
 refine⟨List.replicate n.toNat z,?_,⟨?_,λx hx=>?_⟩,?_⟩
 ·unfold mkS;have:(bytes:Int)*m<=2048*34359738368:=JcS (Int.mul_le_mul_of_nonneg_right (by omega) (by omega)) (Int.mul_le_mul_of_nonneg_left h2 (by omega));rw[if_pos ⟨e,h1,by omega,by omega⟩]
 ·unfold J0;rw[Jjk];omega
 ·rw[List.eq_of_mem_replicate hx];exact hz
 ·unfold J0;rw[Jjk];omega
theorem JOh{x y:Int}(h: ¬y=0):Tot (Jjm x y) λr=>r=x.tmod y:=⟨_,by unfold Jjm;rw[if_neg h],rfl⟩
theorem JNT{k:IntKind}{x y:Int}(h:0<=y):Tot (Jr8 k x y) λr=>r=k.wrap (x*2^(min y.toNat k.bits)):=⟨_,by unfold Jr8;rw[if_neg (by omega)],rfl⟩
theorem JOq{k:IntKind}{x y:Int}(h:0<=y):Tot (JmD k x y) λr=>r=x.fdiv (2^(min y.toNat k.bits)):=⟨_,by unfold JmD;rw[if_neg (by omega)],rfl⟩
theorem J6b{n:Nat}{i:Int}(e:0<=i:=by omega)(h1:i<n:=by omega):Tot (inb n i) λ_=>True:=⟨(),by unfold inb;rw[if_pos ⟨e,h1⟩],trivial⟩
theorem Jcm{l:List t.D}{i:Int}(h:Ty.fit B S (.l t) l)(g:0<=i:=by omega)(h1:i<J0 l:=by omega):Tot (lat l i.toNat) λr=>t.fit B S r/\r∈l:=by
 have e:i.toNat<l.length:=by unfold J0 at h1;omega
 exact⟨l[i.toNat],by unfold lat;rw[JD e],h.2 _ (JdZ e),JdZ e⟩
theorem Jco{n:Nat}{v:Vector t.D n}{i:Nat}(h:Ty.fit B S (.ar n t) v)(h1:i<n:=by omega):Tot (vat v i) λr=>t.fit B S r:=
 ⟨v[i],by unfold vat;rw[Vector.getElem?_eq_getElem h1],h _ h1⟩
theorem J3W{l:List t.D}{i:Nat}{x:t.D}(h:Ty.fit B S (.l t) l)(hx:t.fit B S x):Ty.fit B S (.l t) (J0t l i x):=⟨by
 have:=h.1;unfold J0t J0 at*;rw[List.length_set];exact this,λy hy=>by
 rcases JuC hy with h1|rfl
 ·exact h.2 y h1
 ·exact hx⟩
theorem J5z{α:Type}{l:List α}{i:Nat}{x:α}:J0 (J0t l i x)=J0 l:=by unfold J0t J0;rw[List.length_set]
theorem JqM{n:Nat}{v:Vector t.D n}{i:Nat}{x:t.D}(h:Ty.fit B S (.ar n t) v)(hx:t.fit B S x):Ty.fit B S (.ar n t) (Jom v i x):=λj hj=>by
 unfold Jom;show t.fit B S ((v.setIfInBounds i x)[j]);rw[Vector.getElem_setIfInBounds];split
 ·exact hx
 ·exact h j hj
theorem JGz{l:List UInt8}{i:Int}(g:0<=i:=by omega)(h1:i<J0 l:=by omega):Tot (Jo5 l i) λr=>0<=r/\r<=255:=by
 have e:i.toNat<l.length:=by unfold J0 at h1;omega
 refine⟨(l[i.toNat].toNat:Int),?_,by omega,?_⟩
 ·unfold Jo5;rw[if_pos g,JD e]
 ·have:=l[i.toNat].toNat_lt;omega
theorem JHW{l:List UInt8}:J0 (toByt l)=J0 l:=by unfold toByt J0;rw[J1C]
theorem J7l{l:List Int}:J0 (toStr l)=J0 l:=by unfold toStr J0;rw[J1C]
end
theorem Ty.fit.u{B S g e:Int}{t:Ty}{x:t.D}(h:t.fit B S x)(h1:B<=g:=by omega)(h2:S<=e:=by omega):t.fit g e x:=h.up h1 h2
theorem Tot.inr{σ ρ:Type}{o:Option ρ}{Q:σ⊕ρ->Prop}(h:Tot o λy=>Q (.inr y)):Tot (Option.map .inr o) Q:=h.map λ_ h=>h
section
variable {B S:Int} {t:Ty}
theorem Tot.clo{ρ:Type}{Q:ρ->Prop}{bytes:Nat}{l:List t.D}{f:List t.D->Option ρ}(hl:Ty.fit B S (.l t) l)(g:B<=34359738368)(hb:bytes<=2048)(h:Tot (f l) Q):Tot ((J1T bytes l).bind f) Q:=
 .bind (Jt6 hl g hb) λr e=>by subst e;exact h
theorem Jc(h:0<=S:=by omega):Ty.fit B S .s ([]:List UInt8):=h
theorem JN3{l:List UInt8}(n:Int)(h:J0 l=n)(h2:n<=S):Ty.fit B S .s l:=by show J0 l<=S;omega
theorem J5j{α:Type}{l:List α}{i:Int}(e:0<=i:=by omega)(h1:i<J0 l:=by omega):Tot (inb l.length i) λ_=>True:=J6b e h1
theorem J5p{l:List t.D}{k:Int}(h:Ty.fit B S (.l t) l)(g:0<=k:=by omega)(h1:k<=J0 l:=by omega):Tot (J0B l none (some k)) λr=>Ty.fit B S (.l t) r/\J0 r=k:=
 (JB8 g h1).mono λ_ ⟨e,h2⟩=>⟨e▸JJh h,h2⟩
theorem J35{l:List t.D}{k:Int}(h:Ty.fit B S (.l t) l)(g:0<=k:=by omega)(h1:k<=J0 l:=by omega):Tot (J0B l (some k) none) λr=>Ty.fit B S (.l t) r/\J0 r=J0 l-k:=
 (JrK g h1).mono λ_ ⟨e,h2⟩=>⟨e▸JJW h,h2⟩
theorem Jd3{l:List UInt8}{k:Int}(h:J0 l<=S)(e:0<=k:=by omega)(h1:k<=J0 l:=by omega):Tot (J0B l none (some k)) λr=>J0 r<=S/\J0 r=k:=
 (JB8 e h1).mono λ_ ⟨_,h2⟩=>⟨by omega,h2⟩
theorem JCw{l:List UInt8}{k:Int}(h:J0 l<=S)(e:0<=k:=by omega)(h1:k<=J0 l:=by omega):Tot (J0B l (some k) none) λr=>J0 r<=S/\J0 r=J0 l-k:=
 (JrK e h1).mono λ_ ⟨_,h2⟩=>⟨by omega,h2⟩
theorem Jdb{l:List UInt8}{j k:Int}(h:J0 l<=S)(e:0<=j:=by omega)(h2:j<=k:=by omega)(h1:k<=J0 l:=by omega):Tot (J0B l (some j) (some k)) λr=>J0 r<=S/\J0 r=k-j:=
 (JMQ e h2 h1).mono λ_ ⟨_,h3⟩=>⟨by omega,h3⟩
theorem Jgb{l:List Int}(h:J0 l<=S):Ty.fit B S .s (toStr l):=by show J0 (toStr l)<=S;rw[J7l];exact h
theorem JFj(a b:Int):JaE a b<=a/\JaE a b<=b/\(JaE a b=a\/JaE a b=b):=by unfold JaE;split<;>omega
theorem JoI(a b:Int):a<=J31 a b/\b<=J31 a b/\(J31 a b=a\/J31 a b=b):=by unfold J31;split<;>omega
theorem JEP{x y:Int}(h:0<=x):x.tmod y<=x:=by
 obtain⟨m,rfl⟩:=Int.eq_ofNat_of_zero_le h;cases y with
 |ofNat n=>show((m%n:Nat):Int)<=m;exact Int.ofNat_le.2 (Nat.mod_le _ _)
 |negSucc n=>show((m%(n+1):Nat):Int)<=m;exact Int.ofNat_le.2 (Nat.mod_le _ _)
theorem JLF{x y:Int}:(0<=x->0<=x.tmod y)/\(0<y->x.tmod y<y)/\(x<=0->x.tmod y<=0)/\(0<=x->x.tmod y<=x)/\(x<=0->x<=x.tmod y):=by
 refine⟨λh=>Int.tmod_nonneg _ h,λh=>Int.tmod_lt_of_pos _ h,λh=>?_,λh=>?_,λh=>?_⟩
 ·have:=Int.tmod_nonneg (a:= -x) y (by omega);rw[Int.neg_tmod]at this;omega
 ·exact JEP h
 ·have h2:(-x).tmod y<= -x:=JEP (by omega);rw[Int.neg_tmod]at h2;omega
theorem JrA{k:IntKind}{x y:Int}(hx:Ty.fit B S (.i k) x)(h: ¬y=0):Tot (Jjm x y) λr=>Ty.fit B S (.i k) r/\((0<=x->0<=r)/\(0<y->r<y)):=
 (JOh h).mono λr e=>by
  subst e;obtain⟨h1,h2,h3,h4,h5⟩:=JLF (x:=x) (y:=y);refine⟨?_,h1,h2⟩;have hz:k.min<=0/\0<=k.max:=by cases k<;>simp[IntKind.min,IntKind.max,IntKind.bits,IntKind.signed]
  obtain⟨q1,q2⟩:k.min<=x/\x<=k.max:=hx;show k.min<=x.tmod y/\x.tmod y<=k.max;rcases Int.le_total 0 x with h|h
  ·have:=h1 h;have:=h4 h;omega
  ·have:=h3 h;have:=h5 h;omega
theorem JNA{k:IntKind}{x y:Int}(h:0<=y):Tot (Jr8 k x y) λr=>Ty.fit B S (.i k) r:=(JNT h).mono λr e=>e▸J7s _ _
theorem JLd{k:IntKind}{x:Int}{n:Nat}(hx:Ty.fit B S (.i k) x):Ty.fit B S (.i k) (x.fdiv (2^n)):=by
 have hp:(0:Int)<2^n:=Int.pow_pos (by decide);have hz:k.min<=0/\0<=k.max:=by cases k<;>simp[IntKind.min,IntKind.max,IntKind.bits,IntKind.signed]
 obtain⟨q1,q2⟩:k.min<=x/\x<=k.max:=hx;show k.min<=x.fdiv (2^n)/\x.fdiv (2^n)<=k.max;rw[Int.fdiv_eq_ediv_of_nonneg _ (Int.le_of_lt hp)];rcases Int.le_total 0 x with h|h
 ·have h1:=Int.ediv_nonneg h (Int.le_of_lt hp);have h2:=Int.ediv_le_self (2^n:Int) h;omega
 ·have h1:x/(2^n)<=0:=by
   have:=Int.ediv_le_ediv hp h;rwa[Int.zero_ediv]at this
  have h2:x<=x/(2^n):=by rw[Int.le_ediv_iff_mul_le hp];have:x*(2^n)<=x*1:=Int.mul_le_mul_of_nonpos_left h (by omega);omega
  omega
theorem JBp{k:IntKind}{x y:Int}(hx:Ty.fit B S (.i k) x)(h:0<=y):Tot (JmD k x y) λr=>Ty.fit B S (.i k) r:=(JOq h).mono λr e=>e▸JLd hx
end
theorem Jd{σ τ ρ:Type}{L:σ->Option (σ⊕ρ)}{Q:ρ->Prop}(e:τ->σ)(I:τ->Prop)(m:τ->Int)
  (h: ∀c,I c->Tot (L (e c)) λr=>match r with| .inl z=> ∃c',z=e c'/\I c'/\m c'<m c/\0<=m c| .inr y=>Q y) {z:σ} (c:τ) (hz:z=e c) (g:I c):Tot (Jf L z) Q:=by
 subst hz;have j: ∀(n:Nat) (c:τ),(m c+1).toNat<n->I c->Tot (Jf L (e c)) Q:=by
  intro n
  induction n with
  |zero=>intro c h1;omega
  |succ n ih=>
   intro c h1 g;obtain⟨r,h2,h3⟩:=h c g;cases r with
   |inl z=>
    obtain⟨c',rfl,h4,h5,k⟩:=h3;rw[JsE h2];exact ih c' (by omega) h4
   |inr y=>rw[Jjy h2];exact⟨y,rfl,h3⟩
 exact j _ c (Nat.lt_succ_self _) g
theorem om{p:Prop}(h:p:=by first|omega|(dsimp only;omega)|(simp only[JjR,Jdv];omega)):p:=h
abbrev BS(B S b s:Int):Prop:=b<=B/\s<=S
theorem fk0{B S:Int}:Ty.fit B S (.i .i64) 0:=JfF .i64 0
theorem fkn{B S:Int}(n:Int)(h:IntKind.i64.min<=n/\n<=IntKind.i64.max:=by decide):Ty.fit B S (.i .i64) n:=h
abbrev BC(B S b s:Int):Prop:=b<=B/\s<=S/\B<=4611686018427387903
abbrev BH(B S:Int):Prop:=16384<=B/\1073741824<=S
abbrev BG(B S:Int):Prop:=16384<=B/\1073741824<=S/\B<=4611686018427387903
theorem fzr{B S:Int}{t:Ty}{x:t.D}(e:x=t.zero:=by rfl)(h:0<=B:=by omega)(h2:0<=S:=by omega):Ty.fit B S t x:=e▸J0c h h2 t
def Ty.nl:Ty->Bool
 | .l _=>false
 | .pr a c=>a.nl&&c.nl
 | .ar _ t=>t.nl
 |_=>true
theorem Ty.fit.z'{B S:Int}: ∀{t:Ty} {x:t.D},t.nl=true->Ty.fit B S t x->Ty.fit 0 S t x
 | .b,_,_,_=>trivial
 | .i _,_,_,h=>h
 | .s,_,_,h=>h
 | .l _,_,n,_=>by cases n
 | .pr a c,_,n,h=>by
   have n:(a.nl&&c.nl)=true:=n;rw[JW]at n;exact⟨Ty.fit.z' n.1 h.1,Ty.fit.z' n.2 h.2⟩
 | .ar _ _,_,n,h=>λi hi=>Ty.fit.z' n (h i hi)
 | .u,_,_,_=>trivial
 | .f,_,_,_=>trivial
theorem Ty.fit.z{B S:Int}{t:Ty}{x:t.D}(h:Ty.fit B S t x)(n:t.nl=true:=by rfl):Ty.fit 0 S t x:=Ty.fit.z' n h
theorem omc{p q:Prop}(o:q)(h:q->p:=by intro o;first|omega|(dsimp only;omega)|(simp only[JjR,Jdv];omega)):p:=h o
theorem oo{p:Prop}(h:p:=by omega):p:=h
end Go.Am
end
section
namespace Go.Am
theorem Tot.eqn{ρ:Type}{o:Option ρ}{Q:ρ->Prop}(h:Tot o Q):Tot o λr=>Q r/\o=Option.some r:=by obtain⟨r,e,h⟩:=h;exact⟨r,e,h,e⟩
theorem Tot.same{α ρ:Type}{o:Option α}{f:α->Option ρ}{w:α}{Q:ρ->Prop}(e:o=Option.some w)(h:Tot (f w) Q):Tot (o.bind f) Q:=by rw[e];exact h
def Par{ρ:Type}(o:Option ρ)(Q:ρ->Prop):Prop:= ∀r,o=Option.some r->Q r
section
variable {α β ρ σ:Type} {Q:ρ->Prop} {u v:Option ρ}
theorem Par.bind{o:Option α}{f:α->Option ρ}(h: ∀a,o=Option.some a->Par (f a) Q):Par (o.bind f) Q:=by
 intro r hr;cases o with
 |none=>cases hr
 |some a=>exact h a rfl r hr
theorem Par.map{o:Option α}{f:α->ρ}(h:Par o λa=>Q (f a)):Par (Option.map f o) Q:=by
 intro r hr;cases o with
 |none=>cases hr
 |some a=>injection hr with hr;subst hr;exact h a rfl
theorem Par.some{r:ρ}(h:Q r):Par (Option.some r) Q:=by intro r' e;injection e with e;subst e;exact h
theorem Par.none:Par (Option.none:Option ρ) Q:=by intro r e;cases e
theorem Par.mono{o:Option ρ}{P:ρ->Prop}(h:Par o P)(h2: ∀r,P r->Q r):Par o Q:=λr e=>h2 r (h r e)
theorem Par.ite{c:Bool}(h1:c=true->Par u Q)(h2:c=false->Par v Q):Par (if c=true then u else v) Q:=by
 cases c with
 |true=>exact h1 rfl
 |false=>exact h2 rfl
theorem Par.itf{c:Bool}(h1:c=false->Par u Q)(h2:c=true->Par v Q):Par (if c=false then u else v) Q:=by
 cases c with
 |true=>exact h2 rfl
 |false=>exact h1 rfl
theorem Par.not{c:Bool}(h1:c=false->Par u Q)(h2:c=true->Par v Q):Par (if Jo c=true then u else v) Q:=by
 cases c with
 |true=>exact h2 rfl
 |false=>exact h1 rfl
theorem Par.nof{c:Bool}(h1:c=true->Par u Q)(h2:c=false->Par v Q):Par (if Jo c=false then u else v) Q:=by
 cases c with
 |true=>exact h1 rfl
 |false=>exact h2 rfl
variable {a c:Int}
theorem Par.by{p:Prop}{x:Bool}(hp:x=true↔p)(h1:p->Par u Q)(h2: ¬p->Par v Q):Par (if x=true then u else v) Q:=.ite (λh=>h1 (hp.1 h)) λh=>h2 λh3=>by rw[hp.2 h3]at h;cases h
theorem Par.byf{p:Prop}{x:Bool}(hp:x=true↔p)(h1: ¬p->Par u Q)(h2:p->Par v Q):Par (if x=false then u else v) Q:=.itf (λh=>h1 λh3=>by rw[hp.2 h3]at h;cases h) λh=>h2 (hp.1 h)
theorem Par.lt(h1:a<c->Par u Q)(h2: ¬a<c->Par v Q):Par (if ltI a c=true then u else v) Q:=.by J7P h1 h2
theorem Par.gt(h1:c<a->Par u Q)(h2: ¬c<a->Par v Q):Par (if gtI a c=true then u else v) Q:=.by JaC h1 h2
theorem Par.le(h1:a<=c->Par u Q)(h2: ¬a<=c->Par v Q):Par (if leI a c=true then u else v) Q:=.by J2D h1 h2
theorem Par.ge(h1:c<=a->Par u Q)(h2: ¬c<=a->Par v Q):Par (if geI a c=true then u else v) Q:=.by JcN h1 h2
theorem Par.eq(h1:a=c->Par u Q)(h2: ¬a=c->Par v Q):Par (if eqI a c=true then u else v) Q:=.by J5K h1 h2
theorem Par.ne(h1: ¬a=c->Par u Q)(h2:a=c->Par v Q):Par (if neI a c=true then u else v) Q:=.by JoU h1 (λh=>h2 (Decidable.of_not_not h))
theorem Par.ltf(h1: ¬a<c->Par u Q)(h2:a<c->Par v Q):Par (if ltI a c=false then u else v) Q:=.byf J7P h1 h2
theorem Par.gtf(h1: ¬c<a->Par u Q)(h2:c<a->Par v Q):Par (if gtI a c=false then u else v) Q:=.byf JaC h1 h2
theorem Par.lef(h1: ¬a<=c->Par u Q)(h2:a<=c->Par v Q):Par (if leI a c=false then u else v) Q:=.byf J2D h1 h2
theorem Par.gef(h1: ¬c<=a->Par u Q)(h2:c<=a->Par v Q):Par (if geI a c=false then u else v) Q:=.byf JcN h1 h2
theorem Par.eqf(h1: ¬a=c->Par u Q)(h2:a=c->Par v Q):Par (if eqI a c=false then u else v) Q:=.byf J5K h1 h2
theorem Par.nef(h1:a=c->Par u Q)(h2: ¬a=c->Par v Q):Par (if neI a c=false then u else v) Q:=.byf JoU (λh=>h1 (Decidable.of_not_not h)) h2
theorem Par.while{L:σ->Option (σ⊕ρ)}(I:σ->Prop){z:σ}(hz:I z)(h: ∀z,I z->Par (L z) λr=>match r with| .inl g=>I g| .inr y=>Q y):Par (Jf L z) Q:=by intro r hr;refine Jwh (P:=λs r=>I s->Q r) (λs r e hs=>h s hs _ e) (λs s' r e ih hs=>ih (h s hs _ e)) hr hz
end
theorem J3L{α:Type}{l:List α}{i:Int}{r:α}(h:idx l i=Option.some r):0<=i/\l[i.toNat]?=Option.some r:=by
 unfold idx at h;split at h
 ·exact⟨by assumption,h⟩
 ·cases h
theorem J8t{α:Type}{l:List α}{j:Nat}{e:α}(h:l[j]?=some e):(j:Int)<J0 l:=by obtain⟨h,_⟩:=J6y.1 h;unfold J0;omega
theorem JK2(a b:Int):J32 .i64 a b=a*b\/a*b< -9223372036854775808\/9223372036854775807<a*b:=by have h:J32 .i64 a b=(a*b+9223372036854775808)%18446744073709551616-9223372036854775808:=JnL _;rw[h];generalize a*b=c;omega
theorem Jed(a b:Int):J1 .i64 a b=a+b\/a+b< -9223372036854775808\/9223372036854775807<a+b:=by rw[Jh];omega
theorem JtT(a b:Int):JF .i64 a b=a-b\/a-b< -9223372036854775808\/9223372036854775807<a-b:=by rw[J0E];omega
end Go.Am
end
section
namespace Go.Am
set_option linter.unusedVariables false
set_option maxRecDepth 20000
set_option maxHeartbeats 4000000
section
variable {B S:Int}
theorem Jpe{x:J2x}(e:J0T x=some true):J0 x.2<=12:=by
 have g:Par (J0T x) λy=>y=true->J0 x.2<=12:=by unfold J0T;exact .le (λc r _ _=>c) λ_=>.some nofun
 exact g _ e rfl
theorem Jyt{x:JU}(e:J1H x=some true): ∀(j:Nat) (hj:j<16),J0 (x.2.2[j]).2<=12:=by
 have k:Par (J1H x) λy=>y=true-> ∀(j:Nat) (hj:j<16),J0 (x.2.2[j]).2<=12:=by
  unfold J1H;refine .while (λz=>z.2=x/\0<=z.1/\z.1<=16/\ ∀(j:Nat) (hj:j<16),(j:Int)<z.1->J0 (x.2.2[j]).2<=12) ⟨rfl,J0G _,by dsimp only;omega,λj e h1=>by dsimp only at h1;omega⟩ ?_;rintro⟨i,z⟩ ⟨rfl,o,h,g⟩;dsimp only at o g h;unfold J9Q;dsimp only;refine .lt (λc=>?_) λc=>.some λ_ j hj=>g j hj oo;refine .bind λ_ _=>.bind λr h4=>.bind λb hb=>.nof (λn=>?_) λ_=>.some nofun;subst n;have:=Jh i 1;have hn:z.2=z.2/\(0<=J1 .i64 i 1/\J1 .i64 i 1<=16/\ ∀(j:Nat) (hj:j<16),(j:Int)<J1 .i64 i 1->J0 (z.2.2[j]).2<=12):=by
   refine⟨rfl,oo,oo,λj hj q=>?_⟩;by_cases hl:(j:Int)<i
   ·exact g j hj hl
   ·have:j=i.toNat:=by omega
    subst this;unfold vat at h4;rw[Vector.getElem?_eq_getElem hj]at h4;injection h4 with h4;rw[h4];exact Jpe hb
  exact .eq (λ_=>.bind λ_ _=>.bind λ_ _=>.ite (λ_=>.some nofun) λ_=>.some ⟨rfl,hn.2⟩) λ_=>.some ⟨rfl,hn.2⟩
 exact k _ e rfl
theorem JeX{x:JU}(e:J1z x=some true):0<=x.1/\x.1<64/\0<=x.2.1/\x.2.1<=1099511627776:=by
 have g:Par (J1z x) λy=>y=true->0<=x.1/\x.1<64/\0<=x.2.1/\x.2.1<=1099511627776:=by unfold J1z;exact .ge (λ_=>.lt (λ_=>.ge (λ_=>.some λc=>by have:=J2D.1 c;omega) λ_=>.some nofun) λ_=>.some nofun) λ_=>.some nofun
 exact g _ e rfl
theorem JxI{x:JU}(e:J1q x=some true):J1z x=some true/\J1H x=some true:=by
 have g:Par (J1q x) λy=>y=true->J1z x=some true/\J1H x=some true:=by unfold J1q;exact .bind λa ha=>.ite (λc=>.bind λb hb=>.some λd=>⟨c▸ha,d▸hb⟩) λ_=>.some nofun
 exact g _ e rfl
theorem JEU{x:JU}(h:Ty.fit B S Jr x)(e:J1H x=some true):Ty.fit 0 12 Jr x:=
 ⟨h.1,h.2.1,λi hi=>⟨trivial,Jyt e i hi⟩⟩
theorem JkR{x:JU}{y:Bool}(h:Ty.fit B S Jr x)(e:J1q x=some y)(c:y=true):(0<=x.1/\x.1<64/\0<=x.2.1/\x.2.1<=1099511627776)/\Ty.fit 0 12 Jr x:=by subst c;obtain⟨h1,h2⟩:=JxI e;exact⟨JeX h1,JEU h h2⟩
theorem J6o{x:JU}{y:Int}(h:Ty.fit B S Jr x)(e:J24 x=some y)(c:y=0):(0<=x.1/\x.1<64/\0<=x.2.1/\x.2.1<=1099511627776)/\Ty.fit 0 12 Jr x:=by
 subst c;have g:Par (J24 x) λy=>y=0->J1z x=some true/\J1H x=some true:=by unfold J24;exact .bind λa ha=>.not (λ_=>.some nofun) λc=>.bind λb hb=>.not (λ_=>.some nofun) λd=>.some λ_=>⟨c▸ha,d▸hb⟩
 obtain⟨h1,h2⟩:=g _ e rfl;exact⟨JeX h1,JEU h h2⟩
def JNK(n i:Int)(p:JY)(r:(TQ106)⊕Bool):Prop:=r=.inl (n,J1 .i64 i 1,p)\/r=.inr false
theorem JDW(n i k:Int)(p:JY)(f:J06):Par (Jf J05 (n,i,k,p,f)) (JNK n i p):=by refine .while (λz=>z.1=n/\z.2.1=i/\z.2.2.2.1=p) ⟨rfl,rfl,rfl⟩ ?_;rintro⟨n,i,k,p,f⟩ ⟨rfl,rfl,rfl⟩;unfold J05;exact .lt (λ_=>.bind λ_ _=>.eq (λ_=>.map (.some (.inr rfl))) λ_=>.some ⟨rfl,rfl,rfl⟩) λ_=>.some (.inl rfl)
theorem Jc0{x:JY}(e:J0g x=some true):(1<=x.1/\x.1<=64/\J0 x.2.1<=x.1/\0<=x.2.2/\(x.2.2<J0 x.2.1\/x.2.2=0))/\ ∀(j:Nat) (f:J06),x.2.1[j]?=some f->J1q f.1=some true:=by
 have k:Par (J0g x) λy=>y=true->(1<=x.1/\x.1<=64/\J0 x.2.1<=x.1/\0<=x.2.2/\(x.2.2<J0 x.2.1\/x.2.2=0))/\ ∀(j:Nat) (f:J06),x.2.1[j]?=some f->J1q f.1=some true:=by
  unfold J0g;refine .ltf (λw=>.gtf (λB=>.gtf (λv=>.ltf (λD=>.gt (λ_=>.some nofun) λC=>?_) λ_=>.some nofun) λ_=>.some nofun) λ_=>.some nofun) λ_=>.some nofun;have:=JoI 0 (JF .i64 (J0 x.2.1) 1);have:=J0E (J0 x.2.1) 1;have:=J3 (l:=x.2.1);have hq:1<=x.1/\x.1<=64/\J0 x.2.1<=x.1/\0<=x.2.2/\(x.2.2<J0 x.2.1\/x.2.2=0):=by omega
  refine .while (λz=>z.2.2=x/\0<=z.2.1/\z.1=J0 x.2.1/\ ∀(j:Nat) (f:J06),(j:Int)<z.2.1->x.2.1[j]?=some f->J1q f.1=some true) ⟨rfl,J0G _,rfl,λj e h1=>by dsimp only at h1;omega⟩ ?_;rintro⟨n,i,z⟩ ⟨rfl,q,hn,h⟩;dsimp only at q h hn hq v;unfold J58;dsimp only;refine .lt (λc=>?_) λc=>.some λ_=>⟨hq,λj f he=>h j f (by have:=J8t he;omega) he⟩;refine .bind λf hf=>.bind λb hb=>.nof (λo=>?_) λ_=>.some nofun;subst o;have:=Jh i 1;have A:z=z/\0<=J1 .i64 i 1/\n=J0 z.2.1/\ ∀(j:Nat) (f:J06),(j:Int)<J1 .i64 i 1->z.2.1[j]?=some f->J1q f.1=some true:=by
   refine⟨rfl,oo,hn,λj g hj he=>?_⟩;by_cases hl:(j:Int)<i
   ·exact h j g hl he
   ·have:j=i.toNat:=by omega
    subst this;rw[(J3L hf).2]at he;injection he with he;subst he
    exact hb
  refine .ite (λ_=>.ltf (λ_=>.gtf (λ_=>.not (λ_=>.ne (λ_=>.some nofun) λ_=>?_) λ_=>?_) λ_=>.some nofun) λ_=>.some nofun) λ_=>.not (λ_=>.ne (λ_=>.some nofun) λ_=>?_) λ_=>?_
  all_goals
   intro r hr;rcases JDW n i 0 z f r hr with rfl|rfl
   ·exact A
   ·nofun
 exact k _ e rfl
theorem J2p{x:JY}{y:Bool}(h:Ty.fit B S JI x)(e:J0g x=some y)(c:y=true):(1<=x.1/\x.1<=64/\J0 x.2.1<=x.1/\0<=x.2.2/\(x.2.2<J0 x.2.1\/x.2.2=0))/\Ty.fit 64 12 JI x:=by subst c;obtain⟨q,k⟩:=Jc0 e;refine⟨q,h.1,⟨by show J0 x.2.1<=64;omega,λa ha=>?_⟩,h.c⟩;obtain⟨j,hj⟩:=JbU.1 ha;have h2:=h.2.1.2 a ha;exact⟨(JkR h2.1 (k j a hj) rfl).2.u,h2.2⟩
theorem J3p{x:JZ}{y:Bool}(h:Ty.fit B S Jy x)(e:J1i x=some y)(c:y=true)(k:B<=4611686018427387903:=by omega):(J0 x.1+J0 x.2<=1024)/\Ty.fit 1024 0 Jy x:=by
 subst c;have g:Par (J1i x) λy=>y=true-> ¬1024<J1 .i64 (J0 x.1) (J0 x.2):=by unfold J1i;exact .gt (λ_=>.some nofun) λc _ _ _=>c
 have o:=g _ e rfl;have:=Jh (J0 x.1) (J0 x.2);have:=J3 (l:=x.1);have:=J3 (l:=x.2);have:J0 x.1<=B:=h.1.1;have:J0 x.2<=B:=h.2.1;have j:J0 x.1+J0 x.2<=1024:=by omega
 refine⟨j,⟨?_,λa ha=>?_⟩,?_,λa ha=>?_⟩
 ·show J0 x.1<=1024;omega
 ·have q:=h.1.2 a ha;exact q
 ·show J0 x.2<=1024;omega
 ·have q:=h.c a ha;exact q
theorem Jwr{x:Js}(e:J28 x=some true):1<=x.1/\x.1<=1073741824/\1<=x.2.1/\x.2.1<=3/\J0 x.2.2.2.2.1<=4096/\J0 x.2.2.2.2.2<=8:=by
 have g:Par (J28 x) λy=>y=true->1<=x.1/\x.1<=1073741824/\1<=x.2.1/\x.2.1<=3/\J0 x.2.2.2.2.1<=4096/\J0 x.2.2.2.2.2<=8:=by unfold J28;refine .ltf (λq=>.gtf (λh=>.ltf (λj=>.gtf (λo=>.ltf (λ_=>.gtf (λ_=>.gtf (λk=>.gt (λ_=>.some nofun) λn=>?_) λ_=>.some nofun) λ_=>.some nofun) λ_=>.some nofun) λ_=>.some nofun) λ_=>.some nofun) λ_=>.some nofun) λ_=>.some nofun;intro _ _ _;omega
 exact g _ e rfl
theorem JxX{x:List Js}(e:J0W x=some true):J0 x<=64/\ ∀(j:Nat) (f:Js),x[j]?=some f->J28 f=some true:=by
 have k:Par (J0W x) λy=>y=true->J0 x<=64/\ ∀(j:Nat) (f:Js),x[j]?=some f->J28 f=some true:=by
  unfold J0W;refine .gt (λ_=>.some nofun) λr=>?_;have hq:J0 x<=64:=by omega
  refine .while (λz=>z.1=x/\0<=z.2/\ ∀(j:Nat) (f:Js),(j:Int)<z.2->x[j]?=some f->J28 f=some true) ⟨rfl,J0G _,λj e h1=>by dsimp only at h1;omega⟩ ?_;rintro⟨z,i⟩ ⟨rfl,q,h⟩;dsimp only at q h hq;unfold J9x;dsimp only;refine .lt (λc=>?_) λc=>.some λ_=>⟨hq,λj f he=>h j f (by have:=J8t he;omega) he⟩;refine .bind λf hf=>.bind λb hb=>.nof (λn=>?_) λ_=>.some nofun;subst n;have:=Jh i 1;have o:z=z/\0<=J1 .i64 i 1/\ ∀(j:Nat) (f:Js),(j:Int)<J1 .i64 i 1->z[j]?=some f->J28 f=some true:=by
   refine⟨rfl,oo,λj g hj he=>?_⟩;by_cases hl:(j:Int)<i
   ·exact h j g hl he
   ·have:j=i.toNat:=by omega
    subst this;rw[(J3L hf).2]at he;injection he with he;subst he
    exact hb
  exact .gt (λ_=>.bind λ_ _=>.bind λ_ _=>.ge (λ_=>.some nofun) λ_=>.some o) λ_=>.some o
 exact k _ e rfl
theorem J2m{x:List Js}{y:Bool}(h:Ty.fit B S (.l Jl) x)(e:J0W x=some y)(c:y=true):(J0 x<=64)/\Ty.fit 4096 0 (.l Jl) x:=by
 subst c;obtain⟨q,k⟩:=JxX e;refine⟨q,?_,λa ha=>?_⟩
 ·show J0 x<=4096;omega
 obtain⟨j,hj⟩:=JbU.1 ha;have w:=Jwr (k j a hj);obtain⟨h1,h2,h3,h4,h5,g⟩:=h.2 a ha;refine⟨h1,h2,h3,h4,⟨?_,h5.2⟩,?_,g.2⟩
 ·show J0 _<=4096;omega
 ·show J0 _<=4096;omega
theorem J46{x:List T_api_Row}{y:Bool}(h:Ty.fit B S (.l Jb) x)(e:J1u x=some y)(c:y=true):(1<=J0 x/\J0 x<=64)/\Ty.fit 64 0 (.l Jb) x:=by
 subst c;have g:Par (J1u x) λy=>y=true->(1<=J0 x/\J0 x<=64):=by unfold J1u;exact .ltf (λ_=>.gt (λ_=>.some nofun) λ_ _ _ _=>by omega) λ_=>.some nofun
 have q:=g _ e rfl;exact⟨q,q.2,λa ha=>h.2 a ha⟩
theorem JnS{l:List T_api_Row}{p:Int}(e:J1B (l,p)=some true)(hp:1<=p)(n:p<=64):J0 l<=p/\ ∀(j:Nat) (f:T_api_Row),l[j]?=some f->(j:Int)<=f.1/\f.1<p:=by
 have o:Par (J1B (l,p)) λy=>y=true->J0 l<=p/\ ∀(j:Nat) (f:T_api_Row),l[j]?=some f->(j:Int)<=f.1/\f.1<p:=by
  unfold J1B;refine .while (λz=>z.1=l/\z.2.1=p/\0<=z.2.2/\z.2.2<=p/\ ∀(j:Nat) (f:T_api_Row),(j:Int)<z.2.2->l[j]?=some f->(j:Int)<=f.1/\f.1<p) ⟨rfl,rfl,J0G _,by dsimp only;omega,λj e h1=>by dsimp only at h1;omega⟩ ?_;rintro⟨l,p,i⟩ ⟨rfl,rfl,r,k,h⟩;dsimp only at r h k hp n;unfold J69;dsimp only;refine .lt (λc=>?_) λc=>.some λ_=>⟨oo,λj f he=>h j f (by have:=J8t he;omega) he⟩;refine .bind λf hf=>.ltf (λA=>.gef (λB=>.ltf (λ_=>.gtf (λ_=>.gtf (λ_=>?_) λ_=>.some nofun) λ_=>.some nofun) λ_=>.some nofun) λ_=>.some nofun) λ_=>.some nofun;have:=Jh i 1;have:=J0E i 1;have q:i<=f.1->(l=l/\p=p/\0<=J1 .i64 i 1/\J1 .i64 i 1<=p/\ ∀(j:Nat) (f:T_api_Row),(j:Int)<J1 .i64 i 1->l[j]?=some f->(j:Int)<=f.1/\f.1<p):=by
   intro w;refine⟨rfl,rfl,oo,oo,λj g hj he=>?_⟩;by_cases hl:(j:Int)<i
   ·exact h j g hl he
   ·have:j=i.toNat:=by omega
    subst this;rw[(J3L hf).2]at he;injection he with he;subst he
    omega
  refine .gt (λx=>.bind λv h4=>.ge (λ_=>.some nofun) λC=>.some (q ?_)) λ_=>.some (q oo);obtain⟨_,h5⟩:=J3L h4;have:=h _ v oo h5;omega
 exact o _ e rfl
end
section
variable {B S:Int}
def Has(l:List Js)(id:Int):Prop:= ∃j,J0L (l,id)=some j/\0<=j
def InP(p:JY)(id:Int):Prop:= ∃j,J1k (p,id)=some j/\0<=j
theorem Jqq{l:List Js}{id y:Int}(h:Has l id)(e:J0L (l,id)=some y):0<=y:=by obtain⟨j,h,g⟩:=h;rw[h]at e;injection e with e;omega
theorem JqC{p:JY}{id y:Int}(h:InP p id)(e:J1k (p,id)=some y):0<=y:=by obtain⟨j,h,g⟩:=h;rw[h]at e;injection e with e;omega
theorem Jgi{p:JY}{id:Int}{y:JU×Bool}(e:J2J (p,id)=some y):(y.2=true->InP p id)/\(InP p id->y.2=true):=by
 have g:Par (J2J (p,id)) λy=>(y.2=true->InP p id)/\(InP p id->y.2=true):=by unfold J2J;refine .bind λj hj=>.lt (λc=>.some ⟨nofun,λh=>by have:=JqC h hj;omega⟩) λc=>.bind λf hf=>.some ⟨λ_=>⟨j,hj,oo⟩,λ_=>rfl⟩
 exact g _ e
end
theorem JFE{B S:Int}{x1:Jw}(h:Ty.fit B S J6 x1)(p0:0<=x1.2)(g:BS B S 0 0:=by omega):Tot (J5g x1) λy=>Ty.fit B S J6 y/\(y.2=0):=by
 unfold J5g;refine .gt (λe=>?_) λe=>?_
 ·refine .bind (J5p h.1) λj h5=>.some ⟨(⟨h5.1,fk0⟩),om⟩
 ·exact .some ⟨(⟨h.1,fk0⟩),om⟩
section
variable {B S:Int}
theorem JN6(k:Nat): ∀{n e:Int} {l:List Int},Ty.fit B S (.l (.i .u8)) l->Ty.fit 0 0 (.i .i64) n->0<=e->Ty.fit 0 0 (.i .i64) e->B<=4611686018427387903->(n<=256->1<=k)->(¬n<=256->2<=k)->Tot (Jgh J3h k (n,l,e)) λy=>Ty.fit B S tq9 y/\(0<=y.1/\(1<=n->y.1<n)/\0<=y.2.2):=by
 induction k with
 |zero=>intro n e l h1 h2 h3 h4 h5 D v;omega
 |succ k ih=>
  intro n e l h1 h2 h3 h4 h5 D v;show Tot (J3h (Jgh J3h k) (n,l,e)) _;unfold J3h;dsimp only;have:=Jh e 1;have:J0 l<=B:=h1.1;refine .gef (λc=>.lt (λw=>.some ⟨⟨fk0,h1,h4⟩,J0G _,λc=>by omega,h3⟩) λw=>.bind (Ji h1 h3 (by show e<J0 l;omega)) λh C=>?_) λc=>.some ⟨⟨fk0,h1,h4⟩,J0G _,λc=>c,h3⟩;have q2:=(JBE (B:=B) (S:=S)).1 C.1;have:=JFO h;have j:Ty.fit 0 0 (.i .i64) (J1 .i64 e 1):=J5;refine .gt (λz=>.bind (ih (n:=256) h1 (fkn 256) oo j h5 (λ_=>by omega) λc=>by omega) λq o=>?_) λz=>?_
  ·have r:=o.2.2.1 (by decide);have:=JKS 256 (cvI .i64 h);have:=Jh (J32 .i64 256 (cvI .i64 h)) q.1;exact .bind (JrA (k:=.i64) (B:=B) (S:=S) (x:=J1 .i64 (J32 .i64 256 (cvI .i64 h)) q.1) (y:=n) J5 oo) λA g=>.some ⟨⟨g.1,o.1.2⟩,g.2.1 oo,λ_=>g.2.2 oo,o.2.2.2⟩
  ·exact .bind (JrA (k:=.i64) (B:=B) (S:=S) (x:=cvI .i64 h) (y:=n) JbJ oo) λA g=>.some ⟨⟨g.1,h1,j⟩,g.2.1 oo,λ_=>g.2.2 oo,by show 0<=J1 .i64 e 1;omega⟩
theorem Jn{x1:JbV}(h:Ty.fit B S tq9 x1)(p0:0<=x1.2.2)(g:BS B S 0 0:=by omega)(e:B<=4611686018427387903:=by omega):Tot (Jm x1) λy=>Ty.fit B S tq9 y/\(0<=y.1/\(1<=x1.1->y.1<x1.1)/\0<=y.2.2):=by obtain⟨n,l,a⟩:=x1;exact JN6 (B:=B) (S:=S) 100 h.2.1 h.1 p0 h.c e (λ_=>by decide) λ_=>by decide
end
theorem J7Y{B S:Int}{x1:Jw}(h:Ty.fit B S J6 x1)(p0:0<=x1.2)(ab:BG B S:=by omega):Tot (J3i x1) λy=>Ty.fit B S (.pr .s J6) y/\(0<=y.2.2/\J0 y.1<=13):=by
 unfold J3i;refine .bind (Jn (B:=B) (S:=S) (⟨fkn 5,h⟩) om) λv h2=>?_;have:=J2.1 h2.1.1;have:=J2.1 h2.1.c;have:0<=v.1/\v.1<5/\0<=v.2.2:=⟨h2.2.1,h2.c.1 (show(1:Int)<=5 by decide),h2.d⟩;refine .bind (Jn (B:=B) (S:=S) (⟨fkn 6,h2.1.2⟩) om) λy3 K=>?_;have:=J2.1 K.1.c;refine .eq (λU=>?_) λU=>?_
 ·refine .bind (Jn (B:=B) (S:=S) (⟨fkn 14,K.1.2⟩) om) λk j=>?_;have:=J2.1 j.1.1;have:=J2.1 j.1.c;have:0<=k.1/\k.1<14/\0<=k.2.2:=⟨j.2.1,j.c.1 (show(1:Int)<=14 by decide),j.d⟩;refine .bind (JAh (t:=(.i .u8)) (B:=0) (S:=0) (JfF .u8 0)) λP G=>Jd (τ:=JMS) (λq=>(k.1,q.1,q.2.1,q.2.2)) (λq=>Ty.fit 0 0 (.i .i64) q.1/\Ty.fit B S J6 q.2.1/\Ty.fit 13 0 (.l (.i .u8)) q.2.2/\(0<=q.1)/\(q.1<=k.1)/\(0<=q.2.1.2)/\(J0 q.2.2<=q.1)) (λq=>k.1-q.1) ?_ (0,k.2,P) rfl ?_
  ·rintro⟨w,a1,g⟩ I;dsimp only at I;obtain⟨M,A,r,a9,a8,a3,a4⟩:=I;unfold Jau
   try dsimp only
   have:=J2.1 M;have:=J2.1 A.2;have:J0 g<=13:=r.1;have:=J3 (l:=g);refine .lt (λT=>?_) λT=>?_
   ·refine .bind (Jn (B:=B) (S:=S) (⟨fkn 3,A⟩) om) λy7 H=>?_;have:=J2.1 H.1.c;refine .bind (J0n (B:=14) (Bl:=13) (Bm:=1) (S:=0) (J0 g) 1 r (J0d (B:=1) (S:=0) (t:=(.i .u8)) oo JbJ)) λJ Q=>?_;have W:Ty.fit 13 0 (.l (.i .u8)) J:=⟨(by omega:J0 J<=13),λx hx=>Q.1.2 x hx⟩;have:=Jh w 1;exact .some ⟨(J1 .i64 w 1,y7.2,J),rfl,⟨J5,H.1.2,W,om,om,om,om⟩,om,om⟩
   ·have:J0 (toStr g)<=13:=(J7l▸r.1);have:=J3 (l:=toStr g);exact .some ⟨(⟨(Jgb (B:=0) r.1).u,A⟩),om⟩
  ·have:J0 P<=0:=G.1.1
   try dsimp only
   exact⟨fk0,j.1.2,G.1.u,om,om,om,om⟩
 ·refine .bind (JAh (t:=(.i .u8)) (B:=0) (S:=0) (JfF .u8 0)) λV E=>Jd (τ:=JMS) (λq=>(v.1,q.1,q.2.1,q.2.2)) (λq=>Ty.fit 0 0 (.i .i64) q.1/\Ty.fit B S J6 q.2.1/\Ty.fit 13 0 (.l (.i .u8)) q.2.2/\(0<=q.1)/\(q.1<=v.1)/\(0<=q.2.1.2)/\(J0 q.2.2<=q.1)) (λq=>v.1-q.1) ?_ (0,y3.2,V) rfl ?_
  ·rintro⟨o,Z,e⟩ D;dsimp only at D;obtain⟨L,C,n,aa,a7,a5,a6⟩:=D;unfold JaA
   try dsimp only
   have:=J2.1 L;have:=J2.1 C.2;have:J0 e<=13:=n.1;have:=J3 (l:=e);refine .lt (λR=>?_) λR=>?_
   ·refine .bind (Jn (B:=B) (S:=S) (⟨fkn 3,C⟩) om) λY F=>?_;have:=J2.1 F.1.c;refine .bind (J0n (B:=14) (Bl:=13) (Bm:=1) (S:=0) (J0 e) 1 n (J0d (B:=1) (S:=0) (t:=(.i .u8)) oo JbJ)) λz O=>?_;have N:Ty.fit 13 0 (.l (.i .u8)) z:=⟨(by omega:J0 z<=13),λx hx=>O.1.2 x hx⟩;have:=Jh o 1;exact .some ⟨(J1 .i64 o 1,Y.2,z),rfl,⟨J5,F.1.2,N,om,om,om,om⟩,om,om⟩
   ·have:J0 (toStr e)<=13:=(J7l▸n.1);have:J0 (toStr e)=J0 e:=J7l;exact .some ⟨(⟨(Jgb (B:=0) n.1).u,C⟩),om⟩
  ·have:J0 V<=0:=E.1.1
   try dsimp only
   exact⟨fk0,K.1.2,E.1.u,om,om,om,om⟩
theorem J0D{B S:Int}{x1:Jw}(h:Ty.fit B S J6 x1)(p0:0<=x1.2)(v:BG B S:=by omega):Tot (J0l x1) λy=>Ty.fit B S tq9 y/\(0<=y.2.2):=by
 unfold J0l;refine .bind (Jn (B:=B) (S:=S) (⟨fkn 10,h⟩) om) λA h2=>?_;have:=J2.1 h2.1.c;refine .eq (λr=>?_) λr=>?_
 ·refine .bind (Jn (B:=B) (S:=S) (⟨fkn 3,h2.1.2⟩) om) λw n=>?_;have:=J2.1 n.1.c;exact .some ⟨(⟨J1O,n.1.2⟩),om⟩
 ·refine .eq (λk=>?_) λk=>?_
  ·refine .bind (Jn (B:=B) (S:=S) (⟨fkn 16,h2.1.2⟩) om) λj e=>?_;have:=J2.1 e.1.1;have:=J2.1 e.1.c;have:0<=j.1/\j.1<16/\0<=j.2.2:=⟨e.2.1,e.c.1 (show(1:Int)<=16 by decide),e.d⟩;refine .bind (Ji (J0O (B:=16) (S:=0) (t:=(.i .i64)) (by have q:((16:Nat):Int)<=16:=oo;exact q) (fkn 9223372036854775807) (J0O (B:=16) (S:=0) (t:=(.i .i64)) (by have q:((15:Nat):Int)<=16:=oo;exact q) (fkn (-9223372036854775808)) (J0O (B:=16) (S:=0) (t:=(.i .i64)) (by have q:((14:Nat):Int)<=16:=oo;exact q) (fkn 1099511627776) (J0O (B:=16) (S:=0) (t:=(.i .i64)) (by have q:((13:Nat):Int)<=16:=oo;exact q) (fkn 1099511627777) (J0O (B:=16) (S:=0) (t:=(.i .i64)) (by have q:((12:Nat):Int)<=16:=oo;exact q) (fkn 1073741824) (J0O (B:=16) (S:=0) (t:=(.i .i64)) (by have q:((11:Nat):Int)<=16:=oo;exact q) (fkn 1073741825) (J0O (B:=16) (S:=0) (t:=(.i .i64)) (by have q:((10:Nat):Int)<=16:=oo;exact q) (fkn 64) (J0O (B:=16) (S:=0) (t:=(.i .i64)) (by have q:((9:Nat):Int)<=16:=oo;exact q) (fkn 63) (J0O (B:=16) (S:=0) (t:=(.i .i64)) (by have q:((8:Nat):Int)<=16:=oo;exact q) (fkn 16) (J0O (B:=16) (S:=0) (t:=(.i .i64)) (by have q:((7:Nat):Int)<=16:=oo;exact q) (fkn 15) (J0O (B:=16) (S:=0) (t:=(.i .i64)) (by have q:((6:Nat):Int)<=16:=oo;exact q) (fkn 256) (J0O (B:=16) (S:=0) (t:=(.i .i64)) (by have q:((5:Nat):Int)<=16:=oo;exact q) (fkn 255) (J0O (B:=16) (S:=0) (t:=(.i .i64)) (by have q:((4:Nat):Int)<=16:=oo;exact q) (fkn 4294967296) (J0O (B:=16) (S:=0) (t:=(.i .i64)) (by have q:((3:Nat):Int)<=16:=oo;exact q) (fkn 65536) (J0O (B:=16) (S:=0) (t:=(.i .i64)) (by have q:((2:Nat):Int)<=16:=oo;exact q) (fkn 256) (J0O (B:=16) (S:=0) (t:=(.i .i64)) (by have q:((1:Nat):Int)<=16:=oo;exact q) (fkn 255) Ja)))))))))))))))) oo (show _<((16:Nat):Int) by omega)) λx o=>.some ⟨(⟨o.1,e.1.2⟩),om⟩
  ·refine .bind (Jn (B:=B) (S:=S) (⟨fkn 20,h2.1.2⟩) om) λz g=>?_;have:=J2.1 g.1.c;exact .some ⟨(g.1),om⟩
theorem Jax{B S:Int}{x1:JbV}(h:Ty.fit B S tq9 x1)(p0:0<=x1.2.2)(be:BG B S:=by omega):Tot (J3v x1) λy=>Ty.fit B S (.pr J0m J6) y/\(0<=y.2.2):=by
 unfold J3v;refine .bind (Jn (B:=B) (S:=S) (⟨fkn 12,h.2⟩) om) λy2 h2=>?_;have:=J2.1 h2.1.1;have:=J2.1 h2.1.c;have:0<=y2.1/\y2.1<12/\0<=y2.2.2:=⟨h2.2.1,h2.c.1 (show(1:Int)<=12 by decide),h2.d⟩;refine .bind (Ji (J0O (B:=12) (S:=0) (t:=(.i .i64)) (by have q:((12:Nat):Int)<=12:=oo;exact q) (fkn 1) (J0O (B:=12) (S:=0) (t:=(.i .i64)) (by have q:((11:Nat):Int)<=12:=oo;exact q) (fkn 1) (J0O (B:=12) (S:=0) (t:=(.i .i64)) (by have q:((10:Nat):Int)<=12:=oo;exact q) (fkn 2) (J0O (B:=12) (S:=0) (t:=(.i .i64)) (by have q:((9:Nat):Int)<=12:=oo;exact q) (fkn 2) (J0O (B:=12) (S:=0) (t:=(.i .i64)) (by have q:((8:Nat):Int)<=12:=oo;exact q) (fkn 2) (J0O (B:=12) (S:=0) (t:=(.i .i64)) (by have q:((7:Nat):Int)<=12:=oo;exact q) (fkn 3) (J0O (B:=12) (S:=0) (t:=(.i .i64)) (by have q:((6:Nat):Int)<=12:=oo;exact q) (fkn 4) (J0O (B:=12) (S:=0) (t:=(.i .i64)) (by have q:((5:Nat):Int)<=12:=oo;exact q) (fkn 5) (J0O (B:=12) (S:=0) (t:=(.i .i64)) (by have q:((4:Nat):Int)<=12:=oo;exact q) (fkn 6) (J0O (B:=12) (S:=0) (t:=(.i .i64)) (by have q:((3:Nat):Int)<=12:=oo;exact q) (fkn 7) (J0O (B:=12) (S:=0) (t:=(.i .i64)) (by have q:((2:Nat):Int)<=12:=oo;exact q) (fkn 2) (J0O (B:=12) (S:=0) (t:=(.i .i64)) (by have q:((1:Nat):Int)<=12:=oo;exact q) (fkn 4) Ja)))))))))))) oo (show _<((12:Nat):Int) by omega)) λy3 e=>.eq (λc7=>?_) λc7=>?_
 ·refine .bind (Jn (B:=B) (S:=S) (⟨h.1,h2.1.2⟩) om) λy4 h9=>?_;have:=J2.1 h9.1.c;refine .bind (Jn (B:=B) (S:=S) (⟨fkn 2,h9.1.2⟩) om) λy5 j=>?_;have:=J2.1 j.1.c;refine .eq (λal=>?_) λal=>?_
  ·refine .bind (J7Y j.1.2 om) λy6 a4=>.bind (Jd3 a4.1.1.z) λy7 ao=>?_;have a3:Ty.fit 0 S .s y7:=ao.1;refine .bind (Jn (B:=B) (S:=S) (⟨fkn 40,a4.1.2⟩) om) λy8 a5=>.eq (λb1=>?_) λb1=>?_
   ·refine .bind (J0D a5.1.2 om) λy9 V=>?_;have:0<=y9.2.2:=V.2;refine .bind (J0D V.1.2 om) λaf K=>?_;have:0<=af.2.2:=K.2;exact .some ⟨(⟨⟨e.1,V.1.1,K.1.1,a3.u⟩,K.1.2⟩),om⟩
   ·exact .some ⟨(⟨⟨e.1,h9.1.1,j.1.1,a3.u⟩,a5.1.2⟩),om⟩
  ·refine .bind (Jn (B:=B) (S:=S) (⟨fkn 40,j.1.2⟩) om) λbd R=>?_;have:=J2.1 R.1.c;refine .eq (λai=>?_) λai=>?_
   ·refine .bind (J0D R.1.2 om) λah P=>?_;have:0<=ah.2.2:=P.2;refine .bind (J0D P.1.2 om) λb2 N=>?_;have:0<=b2.2.2:=N.2;exact .some ⟨(⟨⟨e.1,P.1.1,N.1.1,Jc⟩,N.1.2⟩),om⟩
   ·exact .some ⟨(⟨⟨e.1,h9.1.1,j.1.1,Jc⟩,R.1.2⟩),om⟩
 ·refine .eq (λb6=>?_) λb6=>?_
  ·refine .bind (Jn (B:=B) (S:=S) (⟨h.1,h2.1.2⟩) om) λbm I=>?_;have:=J2.1 I.1.c;refine .bind (Jn (B:=B) (S:=S) (⟨fkn 2,I.1.2⟩) om) λbp k=>?_;have:=J2.1 k.1.c;refine .eq (λak=>?_) λak=>?_
   ·refine .bind (J7Y k.1.2 om) λa6 Y=>?_;have:=J2.1 Y.1.c;have:=J3 (l:=a6.1);have:=JFj (J0 a6.1) 12;refine .bind (Jd3 Y.1.1.z) λay au=>?_;have a2:Ty.fit 0 S .s ay:=au.1;refine .bind (Jn (B:=B) (S:=S) (⟨fkn 40,Y.1.2⟩) om) λbi W=>?_;have:=J2.1 W.1.c;refine .eq (λax=>?_) λax=>?_
    ·refine .bind (J0D W.1.2 om) λaz U=>?_;have:0<=az.2.2:=U.2;refine .bind (J0D U.1.2 om) λb5 a0=>?_;have:0<=b5.2.2:=a0.2;exact .some ⟨(⟨⟨e.1,U.1.1,a0.1.1,a2.u⟩,a0.1.2⟩),om⟩
    ·exact .some ⟨(⟨⟨e.1,I.1.1,k.1.1,a2.u⟩,W.1.2⟩),om⟩
   ·refine .bind (Jn (B:=B) (S:=S) (⟨fkn 40,k.1.2⟩) om) λZ g=>?_;have:=J2.1 g.1.1;have:=J2.1 g.1.c;have:0<=Z.1/\Z.1<40/\0<=Z.2.2:=⟨g.2.1,g.c.1 (show(1:Int)<=40 by decide),g.d⟩;refine .eq (λan=>?_) λan=>?_
    ·refine .bind (J0D g.1.2 om) λav T=>?_;have:0<=av.2.2:=T.2;refine .bind (J0D T.1.2 om) λb4 M=>?_;have:0<=b4.2.2:=M.2;exact .some ⟨(⟨⟨e.1,T.1.1,M.1.1,Jc⟩,M.1.2⟩),om⟩
    ·exact .some ⟨(⟨⟨e.1,I.1.1,k.1.1,Jc⟩,g.1.2⟩),om⟩
  ·refine .eq (λb7=>?_) λb7=>?_
   ·refine .bind (Jn (B:=B) (S:=S) (⟨h.1,h2.1.2⟩) om) λbh J=>?_;have:=J2.1 J.1.c;refine .bind (Jn (B:=B) (S:=S) (⟨fkn 2,J.1.2⟩) om) λbo n=>?_;have:=J2.1 n.1.c;refine .eq (λad=>?_) λad=>?_
    ·refine .bind (J7Y n.1.2 om) λbc Q=>.bind (Jd3 Q.1.1.z) λaj a7=>?_;have O:Ty.fit 0 S .s aj:=a7.1;refine .bind (Jn (B:=B) (S:=S) (⟨fkn 40,Q.1.2⟩) om) λbq L=>.eq (λab=>?_) λab=>?_
     ·refine .bind (J0D L.1.2 om) λaw o=>?_;have:0<=aw.2.2:=o.2;refine .bind (J0D o.1.2 om) λaq D=>?_;have:0<=aq.2.2:=D.2;exact .some ⟨(⟨⟨e.1,o.1.1,D.1.1,O.u⟩,D.1.2⟩),om⟩
     ·exact .some ⟨(⟨⟨e.1,J.1.1,n.1.1,O.u⟩,L.1.2⟩),om⟩
    ·refine .bind (Jn (B:=B) (S:=S) (⟨fkn 40,n.1.2⟩) om) λbg A=>?_;have:=J2.1 A.1.c;refine .eq (λa9=>?_) λa9=>?_
     ·refine .bind (J0D A.1.2 om) λam C=>?_;have:0<=am.2.2:=C.2;refine .bind (J0D C.1.2 om) λb0 x=>?_;have:0<=b0.2.2:=x.2;exact .some ⟨(⟨⟨e.1,C.1.1,x.1.1,Jc⟩,x.1.2⟩),om⟩
     ·exact .some ⟨(⟨⟨e.1,J.1.1,n.1.1,Jc⟩,A.1.2⟩),om⟩
   ·refine .eq (λaa=>?_) λaa=>?_
    ·refine .bind (Jn (B:=B) (S:=S) (⟨fkn 2,h2.1.2⟩) om) λbn G=>?_;have:=J2.1 G.1.c;refine .bind (Jn (B:=B) (S:=S) (⟨fkn 40,G.1.2⟩) om) λbf r=>?_;have:=J2.1 r.1.c;refine .eq (λa8=>?_) λa8=>?_
     ·refine .bind (J0D r.1.2 om) λb3 E=>?_;have:0<=b3.2.2:=E.2;refine .bind (J0D E.1.2 om) λb8 H=>?_;have:0<=b8.2.2:=H.2;exact .some ⟨(⟨⟨e.1,E.1.1,H.1.1,Jc⟩,H.1.2⟩),om⟩
     ·exact .some ⟨(⟨⟨e.1,fk0,G.1.1,Jc⟩,r.1.2⟩),om⟩
    ·refine .bind (Jn (B:=B) (S:=S) (⟨fkn 40,h2.1.2⟩) om) λbj v=>?_;have:=J2.1 v.1.c;refine .eq (λac=>?_) λac=>?_
     ·refine .bind (J0D v.1.2 om) λag w=>?_;have:0<=ag.2.2:=w.2;refine .bind (J0D w.1.2 om) λap F=>?_;have:0<=ap.2.2:=F.2;exact .some ⟨(⟨⟨e.1,w.1.1,F.1.1,Jc⟩,F.1.2⟩),om⟩
     ·exact .some ⟨(⟨⟨e.1,fzr⟩,v.1.2⟩),om⟩
theorem Jp5{B S:Int}{x1:JFG}(h:Ty.fit B S (.pr (.i .i64) JG8) x1)(p0:0<=x1.2.2.2.2)(K:BG B S:=by omega):Tot (J5C x1) λy=>Ty.fit B S (.pr J0N J6) y/\(0<=y.2.2):=by
 unfold J5C;refine .bind (Jn (B:=B) (S:=S) (⟨fkn 16,h.d⟩) om) λR h2=>?_;have:=J2.1 h2.1.c;refine .eq (λI=>?_) λI=>?_
 ·exact .some ⟨(⟨⟨fkn 1,fzr⟩,h2.1.2⟩),om⟩
 ·refine .eq (λG=>?_) λG=>?_
  ·exact .some ⟨(⟨⟨fkn 1,fzr⟩,h2.1.2⟩),om⟩
  ·refine .eq (λF=>?_) λF=>?_
   ·refine .bind (Jn (B:=B) (S:=S) (⟨h.1,h2.1.2⟩) om) λM v=>?_;have:=J2.1 v.1.c;exact .some ⟨(⟨⟨fkn 3,fk0,v.1.1,fzr⟩,v.1.2⟩),om⟩
   ·refine .eq (λx=>?_) λx=>?_
    ·exact .some ⟨(⟨⟨fkn 4,fzr⟩,h2.1.2⟩),om⟩
    ·refine .eq (λC=>?_) λC=>?_
     ·exact .some ⟨(⟨⟨fkn 5,fzr⟩,h2.1.2⟩),om⟩
     ·refine .eq (λE=>?_) λE=>?_
      ·refine .ite (λw=>?_) λw=>?_
       ·refine .bind (Jn (B:=B) (S:=S) (⟨fkn 4,h2.1.2⟩) om) λQ r=>?_;have:=J2.1 r.1.c;refine .bind (Jn (B:=B) (S:=S) (⟨fkn 90,r.1.2⟩) om) λO n=>?_;have:=J2.1 n.1.c;refine .bind (Jn (B:=B) (S:=S) (⟨J5,n.1.2⟩) om) λP q=>?_;have:=J2.1 q.1.c;refine .bind (Jn (B:=B) (S:=S) (⟨fkn 257,q.1.2⟩) om) λL e=>?_;have:=J2.1 e.1.c;exact .some ⟨(⟨⟨fkn 6,fk0,J1O,JLj,e.1.1,fzr⟩,e.1.2⟩),om⟩
       ·refine .bind (Jn (B:=B) (S:=S) (⟨h.2.1,h2.1.2⟩) om) λN k=>?_;have:=J2.1 k.1.c;refine .bind (Jax (B:=B) (S:=S) (⟨h.1,k.1.2⟩) om) λH g=>?_;have:0<=H.2.2:=g.2;exact .some ⟨(⟨⟨fkn 2,J5,fk0,fk0,fk0,g.1.1.z.u⟩,g.1.2⟩),om⟩
      ·refine .eq (λA=>?_) λA=>?_
       ·exact .some ⟨(⟨⟨fkn 7,fzr⟩,h2.1.2⟩),om⟩
       ·refine .bind (Jn (B:=B) (S:=S) (⟨h.2.1,h2.1.2⟩) om) λJ o=>?_;have:=J2.1 o.1.c;refine .bind (Jax (B:=B) (S:=S) (⟨h.1,o.1.2⟩) om) λD j=>?_;have:0<=D.2.2:=j.2;exact .some ⟨(⟨⟨fkn 2,J5,fk0,fk0,fk0,j.1.1.z.u⟩,j.1.2⟩),om⟩
theorem Jhy{B S:Int}{x1:JFG}(h:Ty.fit B S (.pr (.i .i64) JG8) x1)(p0:0<=x1.2.2.2.2)(L:0<=x1.2.1)(K:x1.2.1<=1000)(J:BG B S:=by omega):Tot (J3T x1) λy=>Ty.fit B S (.pr (.l J0N) J6) y/\(0<=y.2.2):=by
 unfold J3T;refine .bind (Jn (B:=B) (S:=S) (⟨J5,h.d⟩) om) λj h3=>?_;have:=J2.1 h3.1.1;have:=Jh x1.2.1 1;have:=J2.1 h3.1.c;have:0<=j.1/\(1<=(J1 .i64 x1.2.1 1)->j.1<(J1 .i64 x1.2.1 1))/\0<=j.2.2:=h3.2;refine Jd (τ:=Int×Jw×(List J4l)) (λq=>(x1.1,x1.2.2.1,q.1,q.2.1,q.2.2)) (λq=>Ty.fit 0 0 (.i .i64) q.1/\Ty.fit B S J6 q.2.1/\Ty.fit 1003 S (.l J0N) q.2.2/\(0<=q.1)/\(0<=q.2.1.2)/\(J0 q.2.2+q.1<=1003)) (λq=>q.1) ?_ (j.1,j.2,[(1,0,0,0,0,0,0,0,[]),(1,0,0,0,0,0,0,0,[])]) rfl ?_
 ·rintro⟨k,F,e⟩ r;dsimp only at r;obtain⟨E,A,g,I,H,G⟩:=r;unfold J7U
  try dsimp only
  have:=J2.1 E;have:J0 e<=1003:=g.1;have:=J3 (l:=e);have:J0 e=_:=Jj g;refine .gt (λC=>?_) λC=>?_
  ·refine .bind (Jp5 (B:=B) (S:=S) (⟨h.1,fkn 5,trivial,A⟩) om) λD n=>?_;have:0<=D.2.2:=n.2;refine .bind (J0n (B:=1004) (Bl:=1003) (Bm:=1) (S:=S) (J0 e) 1 g (J0d (B:=1) (S:=S) (t:=J0N) oo (n.1.1.z.u))) λo v=>?_;have:J0 o=_:=Jj v.1;have w:Ty.fit 1003 S (.l J0N) o:=⟨(by omega:J0 o<=1003),λx hx=>v.1.2 x hx⟩;have:=J0E k 1;exact .some ⟨(JF .i64 k 1,D.2,o),rfl,⟨J1O,n.1.2,w,om,om,om⟩,om,om⟩
  ·exact .some ⟨(⟨g.u,A⟩),om⟩
 ·try dsimp only
  exact⟨h3.1.1,h3.1.2,(J0O (B:=2) (S:=0) (t:=J0N) (by have q:((2:Nat):Int)<=2:=oo;exact q) (⟨fkn 1,fzr⟩) (J0O (B:=2) (S:=0) (t:=J0N) (by have q:((1:Nat):Int)<=2:=oo;exact q) (⟨fkn 1,fzr⟩) Ja)).u,om,om,by show((2:Nat):Int)+j.1<=1003;omega⟩
theorem JtJ{B S x1:Int}(h:Ty.fit B S (.i .i64) x1)(p0:x1<=64)(x:BS B S 0 0:=by omega):Tot (J7y x1) λy=>Ty.fit 64 256 (.l .s) y:=by
 unfold J7y;have:=J2.1 h;refine Jd (τ:=Int×(List (List UInt8))) (λq=>(x1,q.1,q.2)) (λq=>(Ty.fit 0 0 (.i .i64) q.1/\0<=q.1/\(q.1<=x1\/q.1<=0))/\(Ty.fit 64 256 (.l .s) q.2/\J0 q.2<=1*q.1+0)) (λq=>x1-q.1) ?_ (0,[]) rfl ?_
 ·rintro⟨g,e⟩ j;dsimp only at j;obtain⟨⟨o,z,C⟩,k,D⟩:=j;unfold Je4
  try dsimp only
  have:=J2.1 o;refine .lt (λr=>?_) λr=>?_
  ·refine .bind (JAh (t:=(.i .u8)) (B:=256) (S:=0) (JfF .u8 0)) λA w=>?_;have:J0 e<=64:=k.1;have:=J3 (l:=e);refine .bind (J0n (B:=64) (Bl:=64) (Bm:=1) (S:=256) (J0 e) 1 k (J0d (B:=1) (S:=256) (t:=.s) oo ((Jgb (B:=0) w.1.1).u))) λv n=>?_;have:=Jh g 1;exact .some ⟨(J1 .i64 g 1,v),rfl,⟨⟨J5,om,om⟩,n.1,om⟩,om,om⟩
  ·exact .some k
 ·have:J0 ([]:List (List UInt8))=0:=rfl
  try dsimp only
  exact⟨⟨fk0,oo,oo⟩,Ja,oo⟩
theorem JEx{B S x1:Int}(h:Ty.fit B S (.i .i64) x1)(j:BS B S 0 0:=by omega):Tot (Jbn x1) λy=>Ty.fit 64 256 JqZ y:=by
 unfold Jbn;have:=J2.1 h;refine .ltf (λg=>?_) λg=>?_
 ·refine .gt (λe=>?_) λe=>?_
  ·exact .some (⟨⟨Ja,fk0,Ja,trivial,Ja⟩,fkn 1⟩)
  ·refine .bind (JtJ h om) λk h4=>.some (⟨⟨h4,fk0,Ja,trivial,Ja⟩,fk0⟩)
 ·exact .some (⟨⟨Ja,fk0,Ja,trivial,Ja⟩,fkn 1⟩)
end Go.Am
end
section
namespace Go.Am
set_option linter.unusedVariables false
set_option maxRecDepth 20000
set_option maxHeartbeats 4000000
theorem JpC{B S x1:Int}(h:Ty.fit B S (.i .i64) x1)(j:BS B S 0 0:=by omega):Tot (J8b x1) λy=>Ty.fit 0 0 tq7 y:=by
 unfold J8b;refine .ltf (λg=>?_) λg=>?_
 ·refine .gt (λe=>?_) λe=>?_
  ·exact .some (⟨fzr,fkn 1⟩)
  ·exact .some (⟨⟨h,fzr⟩,fk0⟩)
 ·exact .some (⟨fzr,fkn 1⟩)
theorem Jpp{B S x1:Int}(h:Ty.fit B S (.i .i64) x1)(j:BS B S 0 0:=by omega):Tot (J8g x1) λy=>Ty.fit 64 0 JHi y:=by
 unfold J8g;have:=J2.1 h;refine .ltf (λg=>?_) λg=>?_
 ·refine .gt (λe=>?_) λe=>?_
  ·exact .some (⟨Ja,fkn 1⟩)
  ·refine .bind (JAh (t:=Jb) (B:=64) (S:=0) (fzr)) λk h4=>.some (⟨h4.1,fk0⟩)
 ·exact .some (⟨Ja,fkn 1⟩)
theorem JDj{B S:Int}{x1:JG}(h:Ty.fit B S J07 x1)(q:BS B S 0 0:=by omega):Tot (Jb6 x1) λy=>Ty.fit 64 0 tq1 y:=by
 unfold Jb6;refine .ltf (λo=>?_) λo=>?_
 ·refine .gtf (λg=>?_) λg=>?_
  ·have:=J2.1 h.2;refine .ltf (λn=>?_) λn=>?_
   ·refine .gt (λk=>?_) λk=>?_
    ·exact .some (⟨fzr,fkn 1⟩)
    ·refine .bind (JpC h.2) λv j=>.bind (Jpp h.1) λr e=>.some (⟨⟨h.1,fkn 1,⟨fkn 1,fzr⟩,j.1.u,fzr,Ja,e.1,Ja⟩,fk0⟩)
   ·exact .some (⟨fzr,fkn 1⟩)
  ·exact .some (⟨fzr,fkn 1⟩)
 ·exact .some (⟨fzr,fkn 1⟩)
theorem JDi{B S:Int}{x1:JG}(h:Ty.fit B S J07 x1)(j:BS B S 0 0:=by omega):Tot (Jbo x1) λy=>Ty.fit 64 256 tq3 y:=by
 unfold Jbo;refine .bind (JDj (B:=0) (S:=0) (h)) λn h1=>.ne (λe=>?_) λe=>?_
 ·exact .some (⟨⟨fzr,Ja,fk0,Ja,trivial,Ja⟩,h1.2⟩)
 ·refine .bind (JEx h.1) λk h4=>.ne (λg=>?_) λg=>?_
  ·exact .some (⟨⟨fzr,Ja,fk0,Ja,trivial,Ja⟩,h4.2⟩)
  ·exact .some (⟨⟨h1.1.u,h4.1⟩,fk0⟩)
theorem Jb3{B S:Int}{x1:JG}(h:Ty.fit B S J07 x1)(g:BS B S 0 0:=by omega):Tot (J2u x1) λy=>Ty.fit 0 0 .b y/\(y=true->0<=x1.1/\x1.1<x1.2):=by
 unfold J2u;have:=J2.1 h.1;refine .ge (λe=>?_) λe=>?_
 ·have:=J2.1 h.2;exact .some ⟨trivial,λc=>omc (J7P.1 c)⟩
 ·exact .some ⟨trivial,nofun⟩
theorem J84{B S:Int}{x1:J2x}(h:Ty.fit B S JE x1)(j:BS B S 0 0:=by omega):Tot (J0T x1) λy=>Ty.fit 0 0 .b y/\(y=true->J0 x1.2<=12):=by
 unfold J0T;refine .le (λg=>?_) λg=>?_
 ·refine .itf (λe=>?_) λe=>?_
  ·exact .some ⟨trivial,λ_=>om⟩
  ·exact .some ⟨trivial,λ_=>om⟩
 ·exact .some ⟨trivial,nofun⟩
theorem JbW{B S:Int}{x1:J1M}(h:Ty.fit B S J0R x1)(r:BS B S 0 0:=by omega):Tot (J26 x1) λy=>Ty.fit 0 0 .b y/\(y=true->0<=x1.1/\x1.1<64/\0<=x1.2.1/\x1.2.1<16/\J0 x1.2.2.1.2<=12/\J0 x1.2.2.2.2<=12):=by
 unfold J26;have s0:Ty.fit 0 S J0R x1:=h;have:=J2.1 s0.1;refine .ge (λq=>?_) λq=>?_
 ·refine .lt (λj=>?_) λj=>?_
  ·have:=J2.1 s0.2.1;refine .ge (λo=>?_) λo=>?_
   ·refine .lt (λn=>?_) λn=>?_
    ·refine .bind (J84 (B:=0) (S:=S) s0.2.2.1) λw k=>.ite (λg=>?_) λg=>?_
     ·have:J0 x1.2.2.1.2<=S:=s0.2.2.1.2;have:=J3 (l:=x1.2.2.1.2);have:J0 x1.2.2.1.2<=12:=k.2 g;refine .bind (J84 (B:=0) (S:=S) s0.2.2.2) λv e=>?_;have:=J3 (l:=x1.2.2.2.2);exact .some ⟨trivial,λc=>by have:J0 x1.2.2.2.2<=12:=e.2 c;first|omega|(dsimp only;omega)|(simp only[JjR,Jdv];omega)⟩
     ·exact .some ⟨trivial,nofun⟩
    ·exact .some ⟨trivial,nofun⟩
   ·exact .some ⟨trivial,nofun⟩
  ·exact .some ⟨trivial,nofun⟩
 ·exact .some ⟨trivial,nofun⟩
theorem JxE{B S:Int}{x1:T_api_Entry}(h:Ty.fit B S J4 x1)(W:BS B S 0 0:=by omega):Tot (J3q x1) λy=>Ty.fit 0 S JGi y/\(y.2=true->0<=y.1.2.2.1/\y.1.2.2.1<=1073741824/\0<=y.1.2.2.2.2.2.2.1.1/\y.1.2.2.2.2.2.2.1.1<64/\0<=y.1.2.2.2.2.2.2.1.2.1/\y.1.2.2.2.2.2.2.1.2.1<16/\J0 y.1.2.2.2.2.2.2.1.2.2.1.2<=12/\J0 y.1.2.2.2.2.2.2.1.2.2.2.2<=12/\J0 y.1.2.2.2.2.2.2.2<=8192):=by
 unfold J3q;have s0:Ty.fit 0 S J4 x1:=h;refine .eq (λT=>?_) λT=>?_
 ·refine .bind (JbW (B:=0) (S:=S) s0.2.2.2.2.2.2.1) λZ h3=>.eq (λV=>?_) λV=>?_
  ·refine .ite (λU=>?_) λU=>?_
   ·have:=J2.1 s0.2.2.2.2.2.2.1.1;refine .gt (λE=>?_) λE=>?_
    ·have:=J2.1 s0.2.2.2.2.2.1;refine .ge (λx=>?_) λx=>?_
     ·refine .le (λj=>?_) λj=>?_
      ·have:=J2.1 s0.2.2.1;refine .ge (λo=>?_) λo=>?_
       ·exact .some ⟨(⟨⟨s0.1,s0.2.1,s0.2.2.1,s0.2.2.2.1,s0.2.2.2.2.1,s0.2.2.2.2.2.1,s0.2.2.2.2.2.2.1,Jc⟩,trivial⟩),λc=>omc (J2D.1 c)⟩
       ·exact .some ⟨(⟨⟨s0.1,s0.2.1,s0.2.2.1,s0.2.2.2.1,s0.2.2.2.2.1,s0.2.2.2.2.2.1,s0.2.2.2.2.2.2.1,Jc⟩,trivial⟩),nofun⟩
      ·exact .some ⟨(⟨⟨s0.1,s0.2.1,s0.2.2.1,s0.2.2.2.1,s0.2.2.2.2.1,s0.2.2.2.2.2.1,s0.2.2.2.2.2.2.1,Jc⟩,trivial⟩),nofun⟩
     ·exact .some ⟨(⟨⟨s0.1,s0.2.1,s0.2.2.1,s0.2.2.2.1,s0.2.2.2.2.1,s0.2.2.2.2.2.1,s0.2.2.2.2.2.2.1,Jc⟩,trivial⟩),nofun⟩
    ·exact .some ⟨(⟨⟨s0.1,s0.2.1,s0.2.2.1,s0.2.2.2.1,s0.2.2.2.2.1,s0.2.2.2.2.2.1,s0.2.2.2.2.2.2.1,Jc⟩,trivial⟩),nofun⟩
   ·exact .some ⟨(⟨⟨s0.1,s0.2.1,s0.2.2.1,s0.2.2.2.1,s0.2.2.2.2.1,s0.2.2.2.2.2.1,s0.2.2.2.2.2.2.1,Jc⟩,trivial⟩),nofun⟩
  ·refine .ite (λe=>?_) λe=>?_
   ·have:=J2.1 s0.2.2.2.2.2.2.1.1;have:=J2.1 s0.2.2.2.2.2.2.1.2.1;have:=J3 (l:=x1.2.2.2.2.2.2.1.2.2.1.2);have:=J3 (l:=x1.2.2.2.2.2.2.1.2.2.2.2);have:0<=x1.2.2.2.2.2.2.1.1/\x1.2.2.2.2.2.2.1.1<64/\0<=x1.2.2.2.2.2.2.1.2.1/\x1.2.2.2.2.2.2.1.2.1<16/\J0 x1.2.2.2.2.2.2.1.2.2.1.2<=12/\J0 x1.2.2.2.2.2.2.1.2.2.2.2<=12:=h3.2 e;have:=J2.1 s0.2.2.1;refine .ge (λA=>?_) λA=>?_
    ·exact .some ⟨(⟨⟨s0.1,s0.2.1,s0.2.2.1,s0.2.2.2.1,s0.2.2.2.2.1,fk0,s0.2.2.2.2.2.2.1,Jc⟩,trivial⟩),λc=>omc (J2D.1 c)⟩
    ·exact .some ⟨(⟨⟨s0.1,s0.2.1,s0.2.2.1,s0.2.2.2.1,s0.2.2.2.2.1,fk0,s0.2.2.2.2.2.2.1,Jc⟩,trivial⟩),nofun⟩
   ·exact .some ⟨(⟨⟨s0.1,s0.2.1,s0.2.2.1,s0.2.2.2.1,s0.2.2.2.2.1,fk0,s0.2.2.2.2.2.2.1,Jc⟩,trivial⟩),nofun⟩
 ·refine .eq (λr=>?_) λr=>?_
  ·refine .bind (JbW (B:=0) (S:=S) s0.2.2.2.2.2.2.1) λY K=>.eq (λn=>?_) λn=>?_
   ·refine .ite (λg=>?_) λg=>?_
    ·have:=J2.1 s0.2.2.2.2.2.2.1.1;have:=J2.1 s0.2.2.2.2.2.2.1.2.1;have:=J3 (l:=x1.2.2.2.2.2.2.1.2.2.1.2);have:=J3 (l:=x1.2.2.2.2.2.2.1.2.2.2.2);have:0<=x1.2.2.2.2.2.2.1.1/\x1.2.2.2.2.2.2.1.1<64/\0<=x1.2.2.2.2.2.2.1.2.1/\x1.2.2.2.2.2.2.1.2.1<16/\J0 x1.2.2.2.2.2.2.1.2.2.1.2<=12/\J0 x1.2.2.2.2.2.2.1.2.2.2.2<=12:=K.2 g;refine .gt (λD=>?_) λD=>?_
     ·have:=J2.1 s0.2.2.2.2.2.1;refine .ge (λM=>?_) λM=>?_
      ·refine .le (λL=>?_) λL=>?_
       ·have:=J2.1 s0.2.2.1;refine .ge (λk=>?_) λk=>?_
        ·exact .some ⟨(⟨⟨s0.1,s0.2.1,s0.2.2.1,s0.2.2.2.1,s0.2.2.2.2.1,s0.2.2.2.2.2.1,s0.2.2.2.2.2.2.1,Jc⟩,trivial⟩),λc=>omc (J2D.1 c)⟩
        ·exact .some ⟨(⟨⟨s0.1,s0.2.1,s0.2.2.1,s0.2.2.2.1,s0.2.2.2.2.1,s0.2.2.2.2.2.1,s0.2.2.2.2.2.2.1,Jc⟩,trivial⟩),nofun⟩
       ·exact .some ⟨(⟨⟨s0.1,s0.2.1,s0.2.2.1,s0.2.2.2.1,s0.2.2.2.2.1,s0.2.2.2.2.2.1,s0.2.2.2.2.2.2.1,Jc⟩,trivial⟩),nofun⟩
      ·exact .some ⟨(⟨⟨s0.1,s0.2.1,s0.2.2.1,s0.2.2.2.1,s0.2.2.2.2.1,s0.2.2.2.2.2.1,s0.2.2.2.2.2.2.1,Jc⟩,trivial⟩),nofun⟩
     ·exact .some ⟨(⟨⟨s0.1,s0.2.1,s0.2.2.1,s0.2.2.2.1,s0.2.2.2.2.1,s0.2.2.2.2.2.1,s0.2.2.2.2.2.2.1,Jc⟩,trivial⟩),nofun⟩
    ·exact .some ⟨(⟨⟨s0.1,s0.2.1,s0.2.2.1,s0.2.2.2.1,s0.2.2.2.2.1,s0.2.2.2.2.2.1,s0.2.2.2.2.2.2.1,Jc⟩,trivial⟩),nofun⟩
   ·refine .ite (λJ=>?_) λJ=>?_
    ·have:=J2.1 s0.2.2.2.2.2.2.1.1;refine .ge (λG=>?_) λG=>?_
     ·exact .some ⟨(⟨⟨s0.1,s0.2.1,s0.2.2.1,s0.2.2.2.1,s0.2.2.2.2.1,fk0,s0.2.2.2.2.2.2.1,Jc⟩,trivial⟩),λc=>omc (J2D.1 c)⟩
     ·exact .some ⟨(⟨⟨s0.1,s0.2.1,s0.2.2.1,s0.2.2.2.1,s0.2.2.2.2.1,fk0,s0.2.2.2.2.2.2.1,Jc⟩,trivial⟩),nofun⟩
    ·exact .some ⟨(⟨⟨s0.1,s0.2.1,s0.2.2.1,s0.2.2.2.1,s0.2.2.2.2.1,fk0,s0.2.2.2.2.2.2.1,Jc⟩,trivial⟩),nofun⟩
  ·refine .eq (λz=>?_) λz=>?_
   ·have:=J2.1 s0.2.2.1;refine .ge (λI=>?_) λI=>?_
    ·refine .le (λw=>?_) λw=>?_
     ·have:=J2.1 s0.2.2.2.1;exact .some ⟨(⟨⟨s0.1,s0.2.1,s0.2.2.1,s0.2.2.2.1,fk0,fk0,⟨fk0,fk0,⟨trivial,Jc⟩,trivial,Jc⟩,Jc⟩,trivial⟩),λc=>omc (JaC.1 c)⟩
     ·exact .some ⟨(⟨⟨s0.1,s0.2.1,s0.2.2.1,s0.2.2.2.1,fk0,fk0,⟨fk0,fk0,⟨trivial,Jc⟩,trivial,Jc⟩,Jc⟩,trivial⟩),nofun⟩
    ·exact .some ⟨(⟨⟨s0.1,s0.2.1,s0.2.2.1,s0.2.2.2.1,fk0,fk0,⟨fk0,fk0,⟨trivial,Jc⟩,trivial,Jc⟩,Jc⟩,trivial⟩),nofun⟩
   ·refine .eq (λN=>?_) λN=>?_
    ·have:=J2.1 s0.2.2.1;refine .ge (λF=>?_) λF=>?_
     ·refine .le (λH=>?_) λH=>?_
      ·have:=J2.1 s0.2.2.2.1;exact .some ⟨(⟨⟨s0.1,s0.2.1,s0.2.2.1,s0.2.2.2.1,fk0,fk0,⟨fk0,fk0,⟨trivial,Jc⟩,trivial,Jc⟩,Jc⟩,trivial⟩),λc=>omc (JaC.1 c)⟩
      ·exact .some ⟨(⟨⟨s0.1,s0.2.1,s0.2.2.1,s0.2.2.2.1,fk0,fk0,⟨fk0,fk0,⟨trivial,Jc⟩,trivial,Jc⟩,Jc⟩,trivial⟩),nofun⟩
     ·exact .some ⟨(⟨⟨s0.1,s0.2.1,s0.2.2.1,s0.2.2.2.1,fk0,fk0,⟨fk0,fk0,⟨trivial,Jc⟩,trivial,Jc⟩,Jc⟩,trivial⟩),nofun⟩
    ·refine .eq (λq=>?_) λq=>?_
     ·have:=J2.1 s0.2.2.1;refine .ge (λQ=>?_) λQ=>?_
      ·refine .le (λv=>?_) λv=>?_
       ·have:=J2.1 s0.2.2.2.1;exact .some ⟨(⟨⟨s0.1,s0.2.1,s0.2.2.1,s0.2.2.2.1,fk0,fk0,⟨fk0,fk0,⟨trivial,Jc⟩,trivial,Jc⟩,Jc⟩,trivial⟩),λc=>omc (JaC.1 c)⟩
       ·exact .some ⟨(⟨⟨s0.1,s0.2.1,s0.2.2.1,s0.2.2.2.1,fk0,fk0,⟨fk0,fk0,⟨trivial,Jc⟩,trivial,Jc⟩,Jc⟩,trivial⟩),nofun⟩
      ·exact .some ⟨(⟨⟨s0.1,s0.2.1,s0.2.2.1,s0.2.2.2.1,fk0,fk0,⟨fk0,fk0,⟨trivial,Jc⟩,trivial,Jc⟩,Jc⟩,trivial⟩),nofun⟩
     ·refine .eq (λR=>?_) λR=>?_
      ·have:J0 x1.2.2.2.2.2.2.2<=S:=s0.2.2.2.2.2.2.2;have:=J3 (l:=x1.2.2.2.2.2.2.2);exact .some ⟨(⟨⟨s0.1,s0.2.1,fk0,fk0,fk0,fk0,⟨fk0,fk0,⟨trivial,Jc⟩,trivial,Jc⟩,s0.2.2.2.2.2.2.2⟩,trivial⟩),λc=>omc (J2D.1 c)⟩
      ·refine .eq (λP=>?_) λP=>?_
       ·have:J0 x1.2.2.2.2.2.2.2<=S:=s0.2.2.2.2.2.2.2;have:=J3 (l:=x1.2.2.2.2.2.2.2);exact .some ⟨(⟨⟨s0.1,s0.2.1,fk0,fk0,fk0,fk0,⟨fk0,fk0,⟨trivial,Jc⟩,trivial,Jc⟩,s0.2.2.2.2.2.2.2⟩,trivial⟩),λc=>omc (J2D.1 c)⟩
       ·refine .eq (λO=>?_) λO=>?_
        ·have:=J2.1 s0.2.2.2.2.2.2.1.1;refine .ge (λC=>?_) λC=>?_
         ·exact .some ⟨(⟨⟨s0.1,s0.2.1,fk0,fk0,fk0,s0.2.2.2.2.2.1,⟨s0.2.2.2.2.2.2.1.1,fk0,⟨trivial,Jc⟩,trivial,Jc⟩,Jc⟩,trivial⟩),λc=>omc (J7P.1 c)⟩
         ·exact .some ⟨(⟨⟨s0.1,s0.2.1,fk0,fk0,fk0,s0.2.2.2.2.2.1,⟨s0.2.2.2.2.2.2.1.1,fk0,⟨trivial,Jc⟩,trivial,Jc⟩,Jc⟩,trivial⟩),nofun⟩
        ·exact .some ⟨(⟨⟨s0.1,s0.2.1,fk0,fk0,fk0,fk0,⟨fk0,fk0,⟨trivial,Jc⟩,trivial,Jc⟩,Jc⟩,trivial⟩),nofun⟩
theorem J2n{B S:Int}{x1:T_api_Entry}(h:Ty.fit B S J4 x1)(C:BS B S 0 0:=by omega):Tot (J09 x1) λy=>Ty.fit 0 0 .b y/\(y=true->1<=x1.1/\x1.1<=1099511627776/\0<=x1.2.2.1/\x1.2.2.1<=1073741824/\0<=x1.2.2.2.1/\x1.2.2.2.1<x1.1/\0<=x1.2.2.2.2.1/\x1.2.2.2.2.1<x1.1/\0<=x1.2.2.2.2.2.1/\x1.2.2.2.2.2.1<x1.1/\0<=x1.2.2.2.2.2.2.1.1/\x1.2.2.2.2.2.2.1.1<64/\0<=x1.2.2.2.2.2.2.1.2.1/\x1.2.2.2.2.2.2.1.2.1<16/\J0 x1.2.2.2.2.2.2.1.2.2.1.2<=12/\J0 x1.2.2.2.2.2.2.1.2.2.2.2<=12/\J0 x1.2.2.2.2.2.2.2<=8192):=by
 unfold J09;have s0:Ty.fit 0 S J4 x1:=h;refine .bind (JxE (B:=0) (S:=S) s0) λe h1=>.ite (λx=>?_) λx=>?_
 ·have:=J2.1 h1.1.1.c.1;have n:0<=e.1.2.2.1/\e.1.2.2.1<=1073741824/\0<=e.1.2.2.2.2.2.2.1.1/\e.1.2.2.2.2.2.2.1.1<64/\0<=e.1.2.2.2.2.2.2.1.2.1/\e.1.2.2.2.2.2.2.1.2.1<16/\J0 e.1.2.2.2.2.2.2.1.2.2.1.2<=12/\J0 e.1.2.2.2.2.2.2.1.2.2.2.2<=12/\J0 e.1.2.2.2.2.2.2.2<=8192:=h1.2 x;refine .ite (λg=>?_) λg=>?_
  ·have r:=J1D.1 g;have:0<=x1.2.2.1/\x1.2.2.1<=1073741824/\0<=x1.2.2.2.2.2.2.1.1/\x1.2.2.2.2.2.2.1.1<64/\0<=x1.2.2.2.2.2.2.1.2.1/\x1.2.2.2.2.2.2.1.2.1<16/\J0 x1.2.2.2.2.2.2.1.2.2.1.2<=12/\J0 x1.2.2.2.2.2.2.1.2.2.2.2<=12/\J0 x1.2.2.2.2.2.2.2<=8192:=by have q:=n;rw[r]at q;exact q
   have:=J2.1 s0.1;refine .ge (λA=>?_) λA=>?_
   ·refine .le (λz=>?_) λz=>?_
    ·refine .bind (Jb3 (B:=0) (S:=0) (⟨s0.2.2.2.1,s0.1⟩)) λD o=>.ite (λk=>?_) λk=>?_
     ·have:=J2.1 s0.2.2.2.1;have:0<=x1.2.2.2.1/\x1.2.2.2.1<x1.1:=o.2 k;refine .bind (Jb3 (B:=0) (S:=0) (⟨s0.2.2.2.2.1,s0.1⟩)) λF w=>.ite (λj=>?_) λj=>?_
      ·have:=J2.1 s0.2.2.2.2.1;have:0<=x1.2.2.2.2.1/\x1.2.2.2.2.1<x1.1:=w.2 j;refine .bind (Jb3 (B:=0) (S:=0) (⟨s0.2.2.2.2.2.1,s0.1⟩)) λE v=>?_;have:=J2.1 s0.2.2.2.2.2.1;have:=J3 (l:=x1.2.2.2.2.2.2.1.2.2.1.2);have:=J3 (l:=x1.2.2.2.2.2.2.1.2.2.2.2);have:=J3 (l:=x1.2.2.2.2.2.2.2);exact .some ⟨trivial,λc=>by have:0<=x1.2.2.2.2.2.1/\x1.2.2.2.2.2.1<x1.1:=v.2 c;first|omega|(dsimp only;omega)|(simp only[JjR,Jdv];omega)⟩
      ·exact .some ⟨trivial,nofun⟩
     ·exact .some ⟨trivial,nofun⟩
    ·exact .some ⟨trivial,nofun⟩
   ·exact .some ⟨trivial,nofun⟩
  ·exact .some ⟨trivial,nofun⟩
 ·exact .some ⟨trivial,nofun⟩
section
variable {B S:Int}
theorem J22{x:T_api_Entry}{y:Bool}(h:Ty.fit B S J4 x)(e:J09 x=some y)(c:y=true)(n:BS B S 0 0:=by omega):(1<=x.1/\x.1<=1099511627776/\0<=x.2.2.1/\x.2.2.1<=1073741824/\0<=x.2.2.2.1/\x.2.2.2.1<x.1/\0<=x.2.2.2.2.1/\x.2.2.2.2.1<x.1/\0<=x.2.2.2.2.2.1/\x.2.2.2.2.2.1<x.1/\0<=x.2.2.2.2.2.2.1.1/\x.2.2.2.2.2.2.1.1<64/\0<=x.2.2.2.2.2.2.1.2.1/\x.2.2.2.2.2.2.1.2.1<16/\J0 x.2.2.2.2.2.2.1.2.2.1.2<=12/\J0 x.2.2.2.2.2.2.1.2.2.2.2<=12/\J0 x.2.2.2.2.2.2.2<=8192)/\Ty.fit 0 8192 J4 x:=by
 have q:=((J2n h).get e).2 c;obtain⟨h1,h2,h3,h4,h5,g,⟨k,j,_,_⟩,o⟩:=h;refine⟨q,h1,h2,h3,h4,h5,g,⟨k,j,⟨trivial,?_⟩,trivial,?_⟩,?_⟩
 ·show J0 _<=8192;omega
 ·show J0 _<=8192;omega
 ·show J0 _<=8192;omega
end
theorem J5L{B S:Int}{x1:J04}(h:Ty.fit B S JQ x1)(p0:1<=x1.1)(g:x1.1<=1099511627776)(j:J0 x1.2.1<=4096)(e:BS B S 0 0:=by omega)(k:B<=9223372036854775807:=by omega):Tot (J29 x1) λy=>Ty.fit 0 0 (.i .i64) y/\(y=x1.1+J0 x1.2.1-1):=by unfold J29;have:=J3 (l:=x1.2.1);have:J0 x1.2.1=_:=Jj h.2.1;have:=Jh x1.1 (J0 x1.2.1);have:=J0E (J1 .i64 x1.1 (J0 x1.2.1)) 1;exact .some ⟨J1O,om⟩
theorem J25{B S:Int}{x1:J04}(h:Ty.fit B S JQ x1)(K:BS B S 0 0:=by omega)(N:B<=9223372036854775807:=by omega):Tot (J0f x1) λy=>Ty.fit 0 0 .b y/\(y=true->1<=x1.1/\x1.1<=1099511627776/\J0 x1.2.1<=4096/\x1.1-1<=x1.2.2/\x1.2.2<=x1.1+J0 x1.2.1-1):=by
 unfold J0f;have:=J2.1 h.1;refine .ltf (λC=>?_) λC=>?_
 ·refine .gtf (λD=>?_) λD=>?_
  ·have:J0 x1.2.1<=B:=h.2.1.1;have:=J3 (l:=x1.2.1);have:J0 x1.2.1=_:=Jj h.2.1;refine .gtf (λE=>?_) λE=>?_
   ·have:=J2.1 h.c;have:=J0E x1.1 1;refine .ltf (λA=>?_) λA=>?_
    ·refine .bind (J5L h om om om) λO H=>.gt (λo=>?_) λo=>?_
     ·exact .some ⟨trivial,nofun⟩
     ·refine Jd (τ:=Int) (λq=>(q,x1)) (λq=>(Ty.fit 0 0 (.i .i64) q/\0<=q/\(q<=J0 x1.2.1\/q<=0))) (λq=>J0 x1.2.1-q) ?_ 0 rfl ?_
      ·rintro e ⟨k,F,G⟩;unfold J9U
       try dsimp only
       have:=J2.1 k;refine .lt (λw=>?_) λw=>?_
       ·refine .bind (Ji h.2.1) λM J=>?_;have:=Jh x1.1 e;refine .nef (λv=>?_) λv=>?_
        ·refine .bind (Ji h.2.1) λr j=>.bind ((J2n (B:=0) (S:=S) (x1:=r) j.1.z).eqn) λL n=>.not (λg=>?_) λg=>?_
         ·exact .some ⟨trivial,nofun⟩
         ·have I:=J22 (x:=r) j.1.z n.2 g;have:=Jh e 1;exact .some ⟨J1 .i64 e 1,rfl,⟨J5,om,om⟩,om,om⟩
        ·exact .some ⟨trivial,nofun⟩
       ·exact .some ⟨trivial,λ_=>om⟩
      ·try dsimp only
       exact⟨fk0,oo,oo⟩
    ·exact .some ⟨trivial,nofun⟩
   ·exact .some ⟨trivial,nofun⟩
  ·exact .some ⟨trivial,nofun⟩
 ·exact .some ⟨trivial,nofun⟩
section
variable {B S:Int}
theorem Jkd{x:J04}(h:Ty.fit B S JQ x)(e:J0f x=some true)(w:BC B S 0 0:=by omega):(1<=x.1/\x.1<=1099511627776/\J0 x.2.1<=4096/\x.1-1<=x.2.2/\x.2.2<=x.1+J0 x.2.1-1)/\ ∀(j:Nat) (e:T_api_Entry),x.2.1[j]?=some e->e.1=x.1+j/\J09 e=some true:=by
 have q:=((J25 h).get e).2 rfl;refine⟨q,?_⟩;have n:Par (J0f x) λy=>y=true-> ∀(j:Nat) (e:T_api_Entry),x.2.1[j]?=some e->e.1=x.1+j/\J09 e=some true:=by
  unfold J0f
  repeat' first|exact Par.some nofun|refine Par.ltf (λ_=>?_) (λ_=>?_)|refine Par.gtf (λ_=>?_) (λ_=>?_)|refine Par.gt (λ_=>?_) (λ_=>?_)|refine Par.bind λ_ _=>?_
  refine .while (λz=>z.2=x/\0<=z.1/\ ∀(j:Nat) (e:T_api_Entry),(j:Int)<z.1->x.2.1[j]?=some e->e.1=x.1+j/\J09 e=some true) ⟨rfl,J0G _,λj e h1=>by dsimp only at h1;omega⟩ ?_;rintro⟨i,z⟩ ⟨rfl,r,g⟩;dsimp only at r g q;unfold J9U;dsimp only;refine .lt (λc=>?_) λc=>.some λ_ j e he=>g j e (by have:=J8t he;omega) he;refine .bind λC h4=>.nef (λD=>.bind λA h5=>.bind λb hb=>.not (λ_=>.some nofun) λo=>.some ?_) λ_=>.some nofun;subst o;have:=Jh i 1;have:=Jh z.1 i;rw[h4]at h5;injection h5 with h5;subst h5
  refine⟨rfl,?_,λj e hj he=>?_⟩
  ·show 0<=J1 .i64 i 1;omega
  ·have hj:(j:Int)<J1 .i64 i 1:=hj;by_cases k:(j:Int)<i
   ·exact g j e k he
   ·have:j=i.toNat:=by omega
    subst this;have v:=(J3L h4).2;rw[v]at he;injection he with he;subst he
    exact⟨oo,hb⟩
 exact n _ e rfl
theorem J1I{x:J04}{y:Bool}(h:Ty.fit B S JQ x)(e:J0f x=some y)(c:y=true)(g:BC B S 0 0:=by omega):(1<=x.1/\x.1<=1099511627776/\J0 x.2.1<=4096/\x.1-1<=x.2.2/\x.2.2<=x.1+J0 x.2.1-1)/\Ty.fit 4096 8192 JQ x:=by subst c;obtain⟨q,k⟩:=Jkd h e;refine⟨q,h.1,⟨q.2.2.1,λa ha=>?_⟩,h.c⟩;obtain⟨j,hj⟩:=JbU.1 ha;exact(J22 (h.2.1.2 a ha) (k j a hj).2 rfl).2.u
end
theorem J8H{B S:Int}{x1:J6M}(h:Ty.fit B S tq8 x1)(o:BG B S:=by omega):Tot (J2q x1) λy=>Ty.fit 4096 8192 tq8 y/\(y.2=0->J0 y.1.2.1=J0 x1.1.2.1):=by
 unfold J2q;refine .bind ((J25 h.1).eqn) λr h1=>.not (λg=>?_) λg=>?_
 ·have:J0 x1.1.2.1<=B:=h.1.2.1.1;exact .some ⟨(⟨fzr,fkn 26⟩),om⟩
 ·have k:=J1I h.1 h1.2 g;have:=J3 (l:=x1.1.2.1);have:J0 x1.1.2.1=_:=Jj h.1.2.1;have e:Ty.fit 4096 8192 JQ x1.1:=k.2;refine .bind (J5L e om om om) λq n=>.gt (λj=>?_) λj=>?_
  ·exact .some ⟨(⟨fzr,fkn 14⟩),om⟩
  ·exact .some ⟨(⟨⟨e.1,e.2.1,J3Q e.c h.2⟩,fk0⟩),om⟩
theorem J7m{B S:Int}{x1:J04}(h:Ty.fit B S JQ x1)(k:BC B S 0 0:=by omega):Tot (J3I x1) λy=>Ty.fit 0 0 (.i .i64) y:=by
 unfold J3I;refine .bind ((J25 h).eqn) λo h1=>.not (λe=>?_) λe=>?_
 ·exact .some fk0
 ·have v3:=J1I h h1.2 e;have:=J3 (l:=x1.2.1);have:J0 x1.2.1=_:=Jj h.2.1;have g:Ty.fit 4096 8192 JQ x1:=v3.2;refine .bind (J5L g om om om) λn j=>.some j.1
theorem J03{B S x1:Int}(h:Ty.fit B S (.i .i64) x1)(e:BS B S 0 0:=by omega):Tot (Jv x1) λy=>Ty.fit 0 0 JX y/\(y.1=5):=by unfold Jv;exact .some ⟨(⟨fkn 5,fk0,fk0,⟨trivial,Jc⟩,h⟩),om⟩
theorem Jyj{B S:Int}{x1:Js}(h:Ty.fit B S Jl x1)(az:BS B S 0 0:=by omega)(hB:B<=9223372036854775807:=by omega):Tot (J28 x1) λy=>Ty.fit 0 0 .b y:=by
 unfold J28;refine .ltf (λc1=>?_) λc1=>?_
 ·refine .gtf (λc3=>?_) λc3=>?_
  ·have:=J2.1 h.2.1;refine .ltf (λc4=>?_) λc4=>?_
   ·refine .gtf (λc6=>?_) λc6=>?_
    ·have:=J2.1 h.c.1;refine .ltf (λc7=>?_) λc7=>?_
     ·refine .gtf (λc9=>?_) λc9=>?_
      ·have:J0 x1.2.2.2.2.1<=B:=h.e.1.1;have:=J3 (l:=x1.2.2.2.2.1);refine .gtf (λx=>?_) λx=>?_
       ·have:J0 x1.2.2.2.2.2<=B:=h.g.1;have:=J3 (l:=x1.2.2.2.2.2);refine .gt (λY=>?_) λY=>?_
        ·exact .some trivial
        ·have:=J2.1 h.d.1;refine .ltf (λE=>?_) λE=>?_
         ·refine .gtf (λC=>?_) λC=>?_
          ·refine .ne (λT=>?_) λT=>?_
           ·refine .ne (λa1=>?_) λa1=>?_
            ·exact .some trivial
            ·refine Jd (τ:=Int) (λq=>(q,x1)) (λq=>(Ty.fit 0 0 (.i .i64) q/\0<=q/\(q<=J0 x1.2.2.2.2.1\/q<=0))) (λq=>J0 x1.2.2.2.2.1-q) ?_ 0 rfl ?_
             ·rintro o ⟨R,ac,au⟩;unfold Jf5
              try dsimp only
              have:=J2.1 R;refine .lt (λZ=>?_) λZ=>?_
              ·refine .bind (Ji h.e.1) λy3 ao=>.ltf (λA=>?_) λA=>?_
               ·refine .bind (Ji h.e.1) λy4 aj=>.gtf (λr=>?_) λr=>?_
                ·refine .gt (λV=>?_) λV=>?_
                 ·have:=J0E o 1;refine .bind (Ji h.e.1) λy5 aw=>.bind (Ji h.e.1) λy6 b1=>.ge (λG=>?_) λG=>?_
                  ·exact .some trivial
                  ·have:=Jh o 1;exact .some ⟨J1 .i64 o 1,rfl,⟨J5,om,om⟩,om,om⟩
                 ·have:=Jh o 1;exact .some ⟨J1 .i64 o 1,rfl,⟨J5,om,om⟩,om,om⟩
                ·exact .some trivial
               ·exact .some trivial
              ·refine .inr ?_;refine Jd (τ:=Int) (λq=>(q,x1)) (λq=>(Ty.fit 0 0 (.i .i64) q/\0<=q/\(q<=J0 x1.2.2.2.2.2\/q<=0))) (λq=>J0 x1.2.2.2.2.2-q) ?_ 0 rfl ?_
               ·rintro n ⟨M,b9,ah⟩;unfold Jfn
                try dsimp only
                have:=J2.1 M;refine .lt (λw=>?_) λw=>?_
                ·refine .bind (Ji h.g) λy8 ak=>.ltf (λQ=>?_) λQ=>?_
                 ·refine .bind (Ji h.g) λy9 b0=>.gtf (λW=>?_) λW=>?_
                  ·refine .gt (λJ=>?_) λJ=>?_
                   ·have:=J0E n 1;refine .bind (Ji h.g) λa9 b6=>.bind (Ji h.g) λae ai=>.gt (λz=>?_) λz=>?_
                    ·exact .some trivial
                    ·have:=Jh n 1;exact .some ⟨J1 .i64 n 1,rfl,⟨J5,om,om⟩,om,om⟩
                   ·have:=Jh n 1;exact .some ⟨J1 .i64 n 1,rfl,⟨J5,om,om⟩,om,om⟩
                  ·exact .some trivial
                 ·exact .some trivial
                ·exact .some trivial
               ·try dsimp only
                exact⟨fk0,oo,oo⟩
             ·try dsimp only
              exact⟨fk0,oo,oo⟩
           ·refine Jd (τ:=Int) (λq=>(q,x1)) (λq=>(Ty.fit 0 0 (.i .i64) q/\0<=q/\(q<=J0 x1.2.2.2.2.1\/q<=0))) (λq=>J0 x1.2.2.2.2.1-q) ?_ 0 rfl ?_
            ·rintro k ⟨F,a8,ad⟩;unfold Jga
             try dsimp only
             have:=J2.1 F;refine .lt (λL=>?_) λL=>?_
             ·refine .bind (Ji h.e.1) λb2 aa=>.ltf (λD=>?_) λD=>?_
              ·refine .bind (Ji h.e.1) λam an=>.gtf (λI=>?_) λI=>?_
               ·refine .gt (λN=>?_) λN=>?_
                ·have:=J0E k 1;refine .bind (Ji h.e.1) λaq ap=>.bind (Ji h.e.1) λb8 al=>.ge (λK=>?_) λK=>?_
                 ·exact .some trivial
                 ·have:=Jh k 1;exact .some ⟨J1 .i64 k 1,rfl,⟨J5,om,om⟩,om,om⟩
                ·have:=Jh k 1;exact .some ⟨J1 .i64 k 1,rfl,⟨J5,om,om⟩,om,om⟩
               ·exact .some trivial
              ·exact .some trivial
             ·refine .inr ?_;refine Jd (τ:=Int) (λq=>(q,x1)) (λq=>(Ty.fit 0 0 (.i .i64) q/\0<=q/\(q<=J0 x1.2.2.2.2.2\/q<=0))) (λq=>J0 x1.2.2.2.2.2-q) ?_ 0 rfl ?_
              ·rintro j ⟨U,b3,av⟩;unfold JfS
               try dsimp only
               have:=J2.1 U;refine .lt (λH=>?_) λH=>?_
               ·refine .bind (Ji h.g) λag ab=>.ltf (λv=>?_) λv=>?_
                ·refine .bind (Ji h.g) λay af=>.gtf (λa0=>?_) λa0=>?_
                 ·refine .gt (λP=>?_) λP=>?_
                  ·have:=J0E j 1;refine .bind (Ji h.g) λb5 b7=>.bind (Ji h.g) λb4 ax=>.gt (λO=>?_) λO=>?_
                   ·exact .some trivial
                   ·have:=Jh j 1;exact .some ⟨J1 .i64 j 1,rfl,⟨J5,om,om⟩,om,om⟩
                  ·have:=Jh j 1;exact .some ⟨J1 .i64 j 1,rfl,⟨J5,om,om⟩,om,om⟩
                 ·exact .some trivial
                ·exact .some trivial
               ·exact .some trivial
              ·try dsimp only
               exact⟨fk0,oo,oo⟩
            ·try dsimp only
             exact⟨fk0,oo,oo⟩
          ·exact .some trivial
         ·exact .some trivial
       ·exact .some trivial
      ·exact .some trivial
     ·exact .some trivial
    ·exact .some trivial
   ·exact .some trivial
  ·exact .some trivial
 ·exact .some trivial
theorem J3m{B S:Int}{x1:List Js}(h:Ty.fit B S (.l Jl) x1)(A:BS B S 0 0:=by omega)(I:B<=9223372036854775807:=by omega):Tot (J0W x1) λy=>Ty.fit 0 0 .b y:=by
 unfold J0W;have:=J3 (l:=x1);have:J0 x1=_:=Jj h;refine .gt (λv=>?_) λv=>?_
 ·exact .some trivial
 ·refine Jd (τ:=Int) (λq=>(x1,q)) (λq=>(Ty.fit 0 0 (.i .i64) q/\0<=q/\(q<=J0 x1\/q<=0))) (λq=>J0 x1-q) ?_ 0 rfl ?_
  ·rintro e ⟨r,D,C⟩;unfold J9x
   try dsimp only
   have:=J2.1 r;refine .lt (λo=>?_) λo=>?_
   ·refine .bind (Ji h) λE k=>.bind (Jyj k.1) λH x=>.nof (λg=>?_) λg=>?_
    ·refine .gt (λn=>?_) λn=>?_
     ·have:=J0E e 1;refine .bind (Ji h) λF w=>.bind (Ji h) λG z=>.ge (λj=>?_) λj=>?_
      ·exact .some trivial
      ·have:=Jh e 1;exact .some ⟨J1 .i64 e 1,rfl,⟨J5,om,om⟩,om,om⟩
     ·have:=Jh e 1;exact .some ⟨J1 .i64 e 1,rfl,⟨J5,om,om⟩,om,om⟩
    ·exact .some trivial
   ·exact .some trivial
  ·try dsimp only
   exact⟨fk0,oo,oo⟩
theorem J9t{B S:Int}{x1:J2g}(h:Ty.fit B S tq2 x1)(o:BS B S 0 0:=by omega)(w:B<=9223372036854775807:=by omega):Tot (J1l x1) λy=>Ty.fit 0 0 (.i .i64) y/\(-1<=y/\y<J0 x1.1):=by
 unfold J1l;have:J0 x1.1<=B:=h.1.1;have:=J3 (l:=x1.1);have:J0 x1.1=_:=Jj h.1;refine Jd (τ:=Int) (λq=>(x1.1,x1.2,q)) (λq=>(Ty.fit 0 0 (.i .i64) q/\0<=q/\(q<=J0 x1.1\/q<=0))) (λq=>J0 x1.1-q) ?_ 0 rfl ?_
 ·rintro e ⟨g,x,v⟩;unfold J1L
  try dsimp only
  have:=J2.1 g;refine .lt (λk=>?_) λk=>?_
  ·refine .bind (Ji h.1) λr n=>.eq (λj=>?_) λj=>?_
   ·exact .some ⟨g,om⟩
   ·have:=Jh e 1;exact .some ⟨J1 .i64 e 1,rfl,⟨J5,om,om⟩,om,om⟩
  ·exact .some ⟨(fkn (-1)),om⟩
 ·try dsimp only
  exact⟨fk0,oo,oo⟩
theorem Jk2{B S:Int}{x1:J2g}(h:Ty.fit B S tq2 x1)(Z:BG B S:=by omega):Tot (J6h x1) λy=>Ty.fit 8193 0 tq2 y:=by
 unfold J6h;refine .bind ((J3m h.1).eqn) λy2 h1=>.not (λK=>?_) λK=>?_
 ·exact .some (⟨Ja,fkn 15⟩)
 ·have v3:=J2m h.1 h1.2 K;have:=J3 (l:=x1.1);have:J0 x1.1=_:=Jj h.1;have k:Ty.fit 4096 0 (.l Jl) x1.1:=v3.2;refine .ltf (λP=>?_) λP=>?_
  ·refine .gt (λG=>?_) λG=>?_
   ·exact .some (⟨Ja,fkn 1⟩)
   ·refine .bind (J9t (B:=4096) (S:=0) (⟨k,h.2⟩)) λy3 T=>.ge (λJ=>?_) λJ=>?_
    ·exact .some (⟨Ja,fkn 25⟩)
    ·refine .eq (λO=>?_) λO=>?_
     ·exact .some (⟨Ja,fkn 21⟩)
     ·refine Jd (τ:=Int×(List Js)) (λq=>(x1.1,x1.2,q.1,q.2)) (λq=>(Ty.fit 0 0 (.i .i64) q.1/\0<=q.1/\(q.1<=J0 x1.1\/q.1<=0))/\(Ty.fit 4096 0 (.l Jl) q.2/\J0 q.2<=1*q.1+0)) (λq=>J0 x1.1-q.1) ?_ (0,[]) rfl ?_
      ·rintro⟨j,e⟩ r;dsimp only at r;obtain⟨⟨E,Y,V⟩,g,U⟩:=r;unfold JeK
       try dsimp only
       have:=J2.1 E;refine .lt (λL=>?_) λL=>?_
       ·refine .bind (Ji k) λy5 W=>.lt (λD=>?_) λD=>?_
        ·refine .bind (Ji k) λy6 H=>?_;have:J0 e<=4096:=g.1;have:=J3 (l:=e);have:J0 e=_:=Jj g;refine .bind (J0n (B:=4096) (Bl:=4096) (Bm:=4096) (S:=0) (J0 e) 1 g (J0d (B:=4096) (S:=0) (t:=Jl) oo H.1)) λC o=>?_;have:=Jh j 1;have:J0 C=_:=Jj o.1;exact .some ⟨(J1 .i64 j 1,C),rfl,⟨⟨J5,om,om⟩,o.1,om⟩,om,om⟩
        ·refine .inr ?_;have:J0 e<=4096:=g.1;have:=J3 (l:=e);have:J0 e=_:=Jj g;refine .bind (J0n (B:=4097) (Bl:=4096) (Bm:=1) (S:=0) (J0 e) 1 g (J0d (B:=1) (S:=0) (t:=Jl) oo (⟨h.2,fkn 1,fzr⟩))) λI x=>.bind (J35 k) λM v=>?_;have:J0 I=_:=Jj x.1;have:J0 M=_:=Jj v.1;refine .bind (J0n (B:=8193) (Bl:=4097) (Bm:=4096) (S:=0) (J0 I) (J0 M) x.1 v.1) λQ N=>.some (⟨N.1,fk0⟩)
       ·refine .inr ?_;have:J0 e<=4096:=g.1;have:=J3 (l:=e);have:J0 e=_:=Jj g;refine .bind (J0n (B:=4097) (Bl:=4096) (Bm:=1) (S:=0) (J0 e) 1 g (J0d (B:=1) (S:=0) (t:=Jl) oo (⟨h.2,fkn 1,fzr⟩))) λz A=>.bind (J35 k) λw n=>?_;have:J0 z=_:=Jj A.1;have:J0 w=_:=Jj n.1;refine .bind (J0n (B:=8193) (Bl:=4097) (Bm:=4096) (S:=0) (J0 z) (J0 w) A.1 n.1) λR F=>.some (⟨F.1,fk0⟩)
      ·have:J0 ([]:List Js)=0:=rfl
       try dsimp only
       exact⟨⟨fk0,oo,oo⟩,Ja,oo⟩
  ·exact .some (⟨Ja,fkn 1⟩)
theorem J8D{B S:Int}{x1:J1F}(h:Ty.fit B S tq1 x1)(r:BS B S 0 0:=by omega)(x:B<=9223372036854775807:=by omega):Tot (J42 x1) λy=>Ty.fit 0 0 (.pr Jb .b) y:=by
 unfold J42;have:J0 x1.1.2.2.2.2.2.2.2<=B:=h.1.i.1;have:=J3 (l:=x1.1.2.2.2.2.2.2.2);have:J0 x1.1.2.2.2.2.2.2.2=_:=Jj h.1.i;refine Jd (τ:=Int) (λq=>(x1.2,q,x1.1,0,0,0)) (λq=>(Ty.fit 0 0 (.i .i64) q/\0<=q/\(q<=J0 x1.1.2.2.2.2.2.2.2\/q<=0))) (λq=>J0 x1.1.2.2.2.2.2.2.2-q) ?_ 0 rfl ?_
 ·rintro e ⟨k,z,w⟩;unfold Jft
  try dsimp only
  have:=J2.1 k;refine .lt (λn=>?_) λn=>?_
  ·refine .bind (Ji h.1.i) λv o=>.eq (λg=>?_) λg=>?_
   ·refine .bind (Ji h.1.i) λA j=>.some (⟨j.1,trivial⟩)
   ·have:=Jh e 1;exact .some ⟨J1 .i64 e 1,rfl,⟨J5,om,om⟩,om,om⟩
  ·exact .some (⟨fzr,trivial⟩)
 ·try dsimp only
  exact⟨fk0,oo,oo⟩
theorem J3D{B S:Int}{x1:JuK}(h:Ty.fit B S JJ3 x1)(k:BS B S 0 0:=by omega):Tot (J1Z x1) λy=>Ty.fit 0 0 .b y:=by
 unfold J1Z;refine .ne (λj=>?_) λj=>?_
 ·refine .ite (λe=>?_) λe=>?_
  ·have n:=J1D.1 e;refine .eqf (λg=>?_) λg=>?_
   ·exact .some trivial
   ·exact .some trivial
  ·exact .some trivial
 ·exact .some trivial
theorem JbX{B S:Int}{x1:T_api_Grant}(h:Ty.fit B S J8 x1)(r:BS B S 0 0:=by omega):Tot (J50 x1) λy=>Ty.fit 0 0 .b y:=by
 unfold J50;refine .ge (λq=>?_) λq=>?_
 ·refine .le (λj=>?_) λj=>?_
  ·have:=J2.1 h.2.1.1;refine .ge (λo=>?_) λo=>?_
   ·refine .lt (λn=>?_) λn=>?_
    ·have:=J2.1 h.2.1.2;refine .ge (λk=>?_) λk=>?_
     ·refine .lt (λg=>?_) λg=>?_
      ·have:=J2.1 h.c;refine .eqf (λe=>?_) λe=>?_
       ·exact .some trivial
       ·exact .some trivial
      ·exact .some trivial
     ·exact .some trivial
    ·exact .some trivial
   ·exact .some trivial
  ·exact .some trivial
 ·exact .some trivial
theorem JnX{B S:Int}{x1:JuK}(h:Ty.fit B S JJ3 x1)(j:BS B S 0 0:=by omega):Tot (J7h x1) λy=>Ty.fit 0 0 .b y:=by
 unfold J7h;refine .ne (λg=>?_) λg=>?_
 ·exact .some trivial
 ·have:=J2.1 h.1.2.1.2;refine .ne (λe=>?_) λe=>?_
  ·exact .some trivial
  ·exact .some trivial
theorem J4L{B S:Int}{x1:JyZ}(h:Ty.fit B S (.pr Jy Jb) x1)(x:BS B S 0 0:=by omega)(E:B<=9223372036854775807:=by omega):Tot (J2K x1) λy=>Ty.fit 0 0 (.i .i64) y:=by
 unfold J2K;have:J0 x1.1.1<=B:=h.1.1.1;have:=J3 (l:=x1.1.1);have:J0 x1.1.1=_:=Jj h.1.1;refine Jd (τ:=Int) (λq=>(x1.2.1,q,x1.1,x1.2.2)) (λq=>(Ty.fit 0 0 (.i .i64) q/\0<=q/\(q<=J0 x1.1.1\/q<=0))) (λq=>J0 x1.1.1-q) ?_ 0 rfl ?_
 ·rintro e ⟨o,F,C⟩;unfold JiA
  try dsimp only
  have:=J2.1 o;refine .lt (λn=>?_) λn=>?_
  ·refine .bind (Ji h.1.1) λz v=>.eq (λk=>?_) λk=>?_
   ·refine .bind (Ji h.1.1) λD w=>.ite (λg=>?_) λg=>?_
    ·have r:=J1D.1 g;refine .bind (Ji h.1.1) λA j=>.some j.1.c
    ·have:=Jh e 1;exact .some ⟨J1 .i64 e 1,rfl,⟨J5,om,om⟩,om,om⟩
   ·have:=Jh e 1;exact .some ⟨J1 .i64 e 1,rfl,⟨J5,om,om⟩,om,om⟩
  ·exact .some fk0
 ·try dsimp only
  exact⟨fk0,oo,oo⟩
theorem J41{B S:Int}{x1:JZ}(h:Ty.fit B S Jy x1)(aq:BS B S 0 0:=by omega)(hB:B<=9223372036854775807:=by omega):Tot (J1i x1) λy=>Ty.fit 0 0 .b y:=by
 unfold J1i;have:J0 x1.1<=B:=h.1.1;have:=J3 (l:=x1.1);have:J0 x1.1=_:=Jj h.1;have:J0 x1.2<=B:=h.2.1;have:=J3 (l:=x1.2);have:J0 x1.2=_:=Jj h.2;have:=Jh (J0 x1.1) (J0 x1.2);refine .gt (λZ=>?_) λZ=>?_
 ·exact .some trivial
 ·refine Jd (τ:=Int) (λq=>(q,x1)) (λq=>(Ty.fit 0 0 (.i .i64) q/\0<=q/\(q<=J0 x1.1\/q<=0))) (λq=>J0 x1.1-q) ?_ 0 rfl ?_
  ·rintro e ⟨i9,au,b1⟩;unfold JfQ
   try dsimp only
   have:=J2.1 i9;refine .lt (λK=>?_) λK=>?_
   ·refine .bind (Ji h.1) λy3 w=>.bind (JbX w.1) λy4 a2=>.nof (λE=>?_) λE=>?_
    ·refine .gt (λM=>?_) λM=>?_
     ·have:=J0E e 1;refine .bind (Ji h.1) λy5 P=>.bind (Ji h.1) λy6 G=>.bind (JnX (B:=0) (S:=0) (⟨P.1,G.1⟩)) λy7 an=>.not (λD=>?_) λD=>?_
      ·exact .some trivial
      ·refine Jd (τ:=Int) (λq=>(e,q,x1)) (λq=>(Ty.fit 0 0 (.i .i64) q/\q<=JF .i64 e 1)) (λq=>q-0) ?_ (JF .i64 e 1) rfl ?_
       ·rintro o ⟨C,a6⟩;unfold Jfp
        try dsimp only
        have:=J2.1 C;refine .ge (λR=>?_) λR=>?_
        ·refine .bind (Ji h.1) λy9 aj=>.bind (Ji h.1) λa1 ab=>.ite (λr=>?_) λr=>?_
         ·have ai:=J1D.1 r;refine .bind (Ji h.1) λa8 N=>.bind (Ji h.1) λa4 O=>.bind (J3D (B:=0) (S:=0) (⟨N.1,O.1⟩)) λaw a5=>.ite (λT=>?_) λT=>?_
          ·refine .inr ?_;exact .some trivial
          ·have:=J0E o 1;exact .some ⟨JF .i64 o 1,rfl,⟨J1O,om⟩,om,om⟩
         ·have:=Jh e 1;exact .some ⟨J1 .i64 e 1,rfl,⟨J5,om,om⟩,om,om⟩
        ·have:=Jh e 1;exact .some ⟨J1 .i64 e 1,rfl,⟨J5,om,om⟩,om,om⟩
       ·try dsimp only
        exact⟨J1O,oo⟩
     ·have:=J0E e 1;refine Jd (τ:=Int) (λq=>(e,q,x1)) (λq=>(Ty.fit 0 0 (.i .i64) q/\q<=JF .i64 e 1)) (λq=>q-0) ?_ (JF .i64 e 1) rfl ?_
      ·rintro j ⟨I,aa⟩;unfold Jge
       try dsimp only
       have:=J2.1 I;refine .ge (λx=>?_) λx=>?_
       ·refine .bind (Ji h.1) λak ac=>.bind (Ji h.1) λaz a3=>.ite (λv=>?_) λv=>?_
        ·have ap:=J1D.1 v;refine .bind (Ji h.1) λal Y=>.bind (Ji h.1) λa9 A=>.bind (J3D (B:=0) (S:=0) (⟨Y.1,A.1⟩)) λao av=>.ite (λH=>?_) λH=>?_
         ·refine .inr ?_;exact .some trivial
         ·have:=J0E j 1;exact .some ⟨JF .i64 j 1,rfl,⟨J1O,om⟩,om,om⟩
        ·have:=Jh e 1;exact .some ⟨J1 .i64 e 1,rfl,⟨J5,om,om⟩,om,om⟩
       ·have:=Jh e 1;exact .some ⟨J1 .i64 e 1,rfl,⟨J5,om,om⟩,om,om⟩
      ·try dsimp only
       exact⟨J1O,oo⟩
    ·exact .some trivial
   ·refine .inr ?_;refine Jd (τ:=Int) (λq=>(q,x1)) (λq=>(Ty.fit 0 0 (.i .i64) q/\0<=q/\(q<=J0 x1.2\/q<=0))) (λq=>J0 x1.2-q) ?_ 0 rfl ?_
    ·rintro g ⟨F,b0,a7⟩;unfold JfL
     try dsimp only
     have:=J2.1 F;refine .lt (λW=>?_) λW=>?_
     ·refine .bind (Ji h.2) λV n=>.bind (JbX n.1) λae af=>.nof (λz=>?_) λz=>?_
      ·refine .bind (J4L (B:=B) (S:=S) (⟨h,n.1.1,n.1.2.1⟩)) λax ad=>.ge (λU=>?_) λU=>?_
       ·exact .some trivial
       ·refine Jd (τ:=Int) (λq=>(g,q,x1,V)) (λq=>(Ty.fit 0 0 (.i .i64) q/\0<=q/\(q<=g\/q<=0))) (λq=>g-q) ?_ 0 rfl ?_
        ·rintro k ⟨L,am,ay⟩;unfold JfB
         try dsimp only
         have:=J2.1 L;refine .lt (λQ=>?_) λQ=>?_
         ·refine .bind (Ji h.2) λah ag=>.eq (λJ=>?_) λJ=>?_
          ·refine .inr ?_;exact .some trivial
          ·have:=Jh k 1;exact .some ⟨J1 .i64 k 1,rfl,⟨J5,om,om⟩,om,om⟩
         ·have:=Jh g 1;exact .some ⟨J1 .i64 g 1,rfl,⟨J5,om,om⟩,om,om⟩
        ·try dsimp only
         exact⟨fk0,oo,oo⟩
      ·exact .some trivial
     ·exact .some trivial
    ·try dsimp only
     exact⟨fk0,oo,oo⟩
  ·try dsimp only
   exact⟨fk0,oo,oo⟩
theorem Jl4{B S:Int}{x1:JU}(h:Ty.fit B S Jr x1)(x:BS B S 0 0:=by omega):Tot (J1H x1) λy=>Ty.fit 0 0 .b y:=by
 unfold J1H;have s0:Ty.fit 0 S Jr x1:=h;refine Jd (τ:=Int) (λq=>(q,x1)) (λq=>(Ty.fit 0 0 (.i .i64) q/\0<=q/\(q<=16\/q<=0))) (λq=>16-q) ?_ 0 rfl ?_
 ·rintro e ⟨r,w2,z3⟩;unfold J9Q
  try dsimp only
  have:=J2.1 r;refine .lt (λv=>?_) λv=>?_
  ·refine .bind (J6b) λ_ _=>.bind (Jco s0.2.2) λo j=>.bind (J84 j) λA C=>.nof (λn=>?_) λn=>?_
   ·have:J0 o.2<=S:=j.2;refine .eq (λk=>?_) λk=>?_
    ·refine .bind (J6b) λ_ _=>.bind (Jco s0.2.2) λz w=>.ite (λg=>?_) λg=>?_
     ·exact .some trivial
     ·have:=Jh e 1;exact .some ⟨J1 .i64 e 1,rfl,⟨J5,om,om⟩,om,om⟩
    ·have:=Jh e 1;exact .some ⟨J1 .i64 e 1,rfl,⟨J5,om,om⟩,om,om⟩
   ·exact .some trivial
  ·exact .some trivial
 ·try dsimp only
  exact⟨fk0,oo,oo⟩
theorem JfN{B S:Int}{x1:JU}(h:Ty.fit B S Jr x1)(k:BS B S 0 0:=by omega):Tot (J1z x1) λy=>Ty.fit 0 0 .b y:=by
 unfold J1z;refine .ge (λj=>?_) λj=>?_
 ·refine .lt (λe=>?_) λe=>?_
  ·have:=J2.1 h.z.2.1;refine .ge (λg=>?_) λg=>?_
   ·exact .some trivial
   ·exact .some trivial
  ·exact .some trivial
 ·exact .some trivial
theorem Jx7{B S:Int}{x1:JU}(h:Ty.fit B S Jr x1)(g:BS B S 0 0:=by omega):Tot (J1q x1) λy=>Ty.fit 0 0 .b y:=by
 unfold J1q;have s0:Ty.fit 0 S Jr x1:=h;refine .bind (JfN (B:=0) (S:=S) s0) λk h1=>.ite (λe=>?_) λe=>?_
 ·refine .bind (Jl4 (B:=0) (S:=S) s0) λj h3=>.some trivial
 ·exact .some trivial
theorem J3l{B S:Int}{x1:JY}(h:Ty.fit B S JI x1)(ac:BS B S 0 0:=by omega)(hB:B<=9223372036854775807:=by omega):Tot (J0g x1) λy=>Ty.fit 0 0 .b y:=by
 unfold J0g;have:=J2.1 h.1;refine .ltf (λZ=>?_) λZ=>?_
 ·refine .gtf (λc3=>?_) λc3=>?_
  ·have:J0 x1.2.1<=B:=h.2.1.1;have:=J3 (l:=x1.2.1);have:J0 x1.2.1=_:=Jj h.2.1;refine .gtf (λc4=>?_) λc4=>?_
   ·have:=J2.1 h.c;refine .ltf (λY=>?_) λY=>?_
    ·have:=J0E (J0 x1.2.1) 1;refine .gt (λO=>?_) λO=>?_
     ·exact .some trivial
     ·refine Jd (τ:=Int) (λq=>(J0 x1.2.1,q,x1)) (λq=>(Ty.fit 0 0 (.i .i64) q/\0<=q/\(q<=J0 x1.2.1\/q<=0))) (λq=>J0 x1.2.1-q) ?_ 0 rfl ?_
      ·rintro e ⟨L,ab,a7⟩;unfold J58
       try dsimp only
       have:=J2.1 L;refine .lt (λK=>?_) λK=>?_
       ·refine .bind (Ji h.2.1) λk j=>.bind ((Jx7 (B:=0) (S:=S) (x1:=k.1) j.1.z.1).eqn) λy4 D=>.nof (λv=>?_) λv=>?_
        ·have a3:=JkR (x:=k.1) j.1.z.1 D.2 v;refine .ite (λG=>?_) λG=>?_
         ·have:=J2.1 j.1.z.2.2.1;refine .ltf (λQ=>?_) λQ=>?_
          ·refine .gtf (λC=>?_) λC=>?_
           ·refine .not (λJ=>?_) λJ=>?_
            ·refine .ne (λF=>?_) λF=>?_
             ·exact .some trivial
             ·refine Jd (τ:=Int) (λq=>(J0 x1.2.1,e,q,x1,k)) (λq=>(Ty.fit 0 0 (.i .i64) q/\0<=q/\(q<=e\/q<=0))) (λq=>e-q) ?_ 0 rfl ?_
              ·rintro r ⟨ak,af,a6⟩;unfold J05
               try dsimp only
               refine .lt (λH=>?_) λH=>?_
               ·refine .bind (Ji h.2.1) λy6 ai=>.eq (λR=>?_) λR=>?_
                ·refine .inr ?_;exact .some trivial
                ·have:=Jh r 1;exact .some ⟨J1 .i64 r 1,rfl,⟨J5,om,om⟩,om,om⟩
               ·have:=Jh e 1;exact .some ⟨J1 .i64 e 1,rfl,⟨J5,om,om⟩,om,om⟩
              ·try dsimp only
               exact⟨fk0,oo,oo⟩
            ·refine Jd (τ:=Int) (λq=>(J0 x1.2.1,e,q,x1,k)) (λq=>(Ty.fit 0 0 (.i .i64) q/\0<=q/\(q<=e\/q<=0))) (λq=>e-q) ?_ 0 rfl ?_
             ·rintro o ⟨V,aj,a8⟩;unfold Jfw
              try dsimp only
              have:=J2.1 V;refine .lt (λE=>?_) λE=>?_
              ·refine .bind (Ji h.2.1) λy8 a4=>.eq (λw=>?_) λw=>?_
               ·refine .inr ?_;exact .some trivial
               ·have:=Jh o 1;exact .some ⟨J1 .i64 o 1,rfl,⟨J5,om,om⟩,om,om⟩
              ·have:=Jh e 1;exact .some ⟨J1 .i64 e 1,rfl,⟨J5,om,om⟩,om,om⟩
             ·try dsimp only
              exact⟨fk0,oo,oo⟩
           ·exact .some trivial
          ·exact .some trivial
         ·refine .not (λI=>?_) λI=>?_
          ·have:=J2.1 j.1.z.2.2.1;refine .ne (λW=>?_) λW=>?_
           ·exact .some trivial
           ·refine Jd (τ:=Int) (λq=>(J0 x1.2.1,e,q,x1,k)) (λq=>(Ty.fit 0 0 (.i .i64) q/\0<=q/\(q<=e\/q<=0))) (λq=>e-q) ?_ 0 rfl ?_
            ·rintro n ⟨N,a9,a2⟩;unfold Jfb
             try dsimp only
             have:=J2.1 N;refine .lt (λU=>?_) λU=>?_
             ·refine .bind (Ji h.2.1) λa5 ah=>.eq (λT=>?_) λT=>?_
              ·refine .inr ?_;exact .some trivial
              ·have:=Jh n 1;exact .some ⟨J1 .i64 n 1,rfl,⟨J5,om,om⟩,om,om⟩
             ·have:=Jh e 1;exact .some ⟨J1 .i64 e 1,rfl,⟨J5,om,om⟩,om,om⟩
            ·try dsimp only
             exact⟨fk0,oo,oo⟩
          ·refine Jd (τ:=Int) (λq=>(J0 x1.2.1,e,q,x1,k)) (λq=>(Ty.fit 0 0 (.i .i64) q/\0<=q/\(q<=e\/q<=0))) (λq=>e-q) ?_ 0 rfl ?_
           ·rintro g ⟨P,ag,ae⟩;unfold JeJ
            try dsimp only
            have:=J2.1 P;refine .lt (λM=>?_) λM=>?_
            ·refine .bind (Ji h.2.1) λad aa=>.eq (λA=>?_) λA=>?_
             ·refine .inr ?_;exact .some trivial
             ·have:=Jh g 1;exact .some ⟨J1 .i64 g 1,rfl,⟨J5,om,om⟩,om,om⟩
            ·have:=Jh e 1;exact .some ⟨J1 .i64 e 1,rfl,⟨J5,om,om⟩,om,om⟩
           ·try dsimp only
            exact⟨fk0,oo,oo⟩
        ·exact .some trivial
       ·exact .some trivial
      ·try dsimp only
       exact⟨fk0,oo,oo⟩
    ·exact .some trivial
   ·exact .some trivial
  ·exact .some trivial
 ·exact .some trivial
end Go.Am
end

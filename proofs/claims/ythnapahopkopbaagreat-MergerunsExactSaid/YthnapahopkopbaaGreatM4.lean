/-
  Parts of a proof.
-/
import Derived.Test.YthnapahopkopbaaGreatM2
import Derived.Test.YthnapahopkopbaaGreatM3
set_option linter.unusedSimpArgs false
set_option linter.unusedVariables false
section
namespace Go.Am
noncomputable section
set_option maxRecDepth 20000
def J3r(g:(JaY)->Option (JaY))(x1:JaY):Option (JaY):=if geI x1.2.2 (J0 x1.2.1)=false then if ltI x1.1 1 then some (0,x1.2)else(idx x1.2.1 x1.2.2).bind λh=>if gtI x1.1 256 then(g (256,x1.2.1,J1 .i64 x1.2.2 1)).bind λe=>(JnN (J1 .i64 (J3f .i64 256 (cvI .i64 h)) e.1) x1.1).bind λj=>some (j,e.2)else(JnN (cvI .i64 h) x1.1).bind λk=>some (k,x1.2.1,J1 .i64 x1.2.2 1)else some (0,x1.2)
def Jn:(JaY)->Option (JaY):=JgA J3r 100
def J6o(x1:Jz):Option (Jz):=if gtI (J0 x1.1) x1.2 then(J0z x1.1 none (some x1.2)).bind λe=>some (e,0)else some (x1.1,0)
def J37(x1:JjR):Option (Bool):=if eqI x1.1.2.2.1 x1.2.2.2.1 then if eqI x1.1.2.2.2.1 x1.2.2.2.2.1 then some (eqI x1.2.1 (J1 .i64 x1.1.2.1 1))else some false else some false
def J47(x1:Int):Option (Bool):=some (neI x1 x1)
def J1T(x1:JI):Option (Int):=(J47 x1.1).bind λg=>(J47 x1.2).bind λe=>if g then if e then some 0 else some (-1)else if e then some 1 else if ltI x1.1 x1.2 then some (-1)else if gtI x1.1 x1.2 then some 1 else some 0
def J80:Int×(List Int)×JI->Option ((Int×(List Int)×JI)⊕Int):=fun(g,h,e)=>if ltI e.2 e.1 then(idx h e.2).bind λj=>if neI j g then some (.inr j)else some (.inl (g,h,e.1,J1 .i64 e.2 1))else some (.inr g)
def J4Q(x1:List Int):Option (Int):=Jf (J80) (0,x1,J0 x1,0)
def J3L(x1:JL3):Option (Int):=(J1T (x1.1.2.2.2.2.2.2.1.1,x1.2.2.2.2.2.2.2.1.1)).bind λg=>(J1T (x1.1.1,x1.2.1)).bind λe=>(J4Q [g,e]).bind λh=>some h
def J6l:JNB->Option ((JNB)⊕(List T_api_Entry)):=fun(e,g,h)=>if eqI (J0 e) 0 then(Jy 128 h g).bind λv=>some (.inr v)else if eqI (J0 g) 0 then(Jy 128 h e).bind λy=>some (.inr y)else(idx e 0).bind λz=>(idx g 0).bind λr=>(J3L (z,r)).bind λq=>if leI q 0 then(idx e 0).bind λx=>(Jy 128 h [x]).bind λw=>(J0z e (some 1) none).bind λj=>some (.inl (j,g,w))else(idx g 0).bind λn=>(Jy 128 h [n]).bind λk=>(J0z g (some 1) none).bind λo=>some (.inl (e,o,k))
def J2y(x1:JNt):Option (List T_api_Entry):=Jf (J6l) (x1.1,x1.2,[])
def J3c(x1:Int×T_api_Entry):Option (Bool):=if geI x1.1 0 then some (ltI x1.1 x1.2.1)else some false
def J3d(x1:J2f):Option (Bool):=if leI (J0 x1.2) 12 then if x1.1=false then some (eqS x1.2 [])else some true else some false
def J4J(x1:Int):Option (Bool):=if geI x1 0 then some (ltI x1 64)else some false
def J3N(x1:J1e):Option (Bool):=(J4J x1.1).bind λg=>if g then if geI x1.2.1 0 then if ltI x1.2.1 16 then(J3d x1.2.2.1).bind λe=>if e then(J3d x1.2.2.2).bind λh=>some h else some false else some false else some false else some false
def J4S(x1:J1e):Option (Bool):=some (eqT J0W x1 (0,0,(false,[]),false,[]))
def J1N(x1:T_api_Entry):Option (Bool):=some true
def J3I(x1:T_api_Entry):Option (Bool):=if geI x1.2.2.2.2.2.1 1 then some (leI x1.2.2.2.2.2.1 x1.2.2.2.1)else some false
def J6s(x1:J1e):Option (Bool):=if eqT J0W x1 (x1.1,0,(false,[]),false,[])then if geI x1.1 0 then some (ltI x1.1 64)else some false else some false
def JyQ(x1:Unit):Option (Bool×Bool×Bool×Bool×Bool×Unit×Unit×Bool×Bool×Bool×Bool×Bool×Bool×Bool×Bool×Bool×Bool×Bool×Bool×Bool×Bool×Bool×Bool×Bool×Bool×Bool×Bool×Bool×Bool×Bool×Bool×Bool×Bool×Bool×Bool×Bool×Bool×Bool×Bool×Bool×Bool×Bool×Bool×Bool×Bool×Bool×Bool):=some (false,false,false,false,false,(),(),true,false,true,false,false,true,true,true,true,false,true,true,false,false,false,true,true,false,false,false,true,true,false,false,false,false,false,false,false,true,false,false,false,true,false,false,false,false,false,true)
def J5j(x1:T_api_Entry):Option (Bool):=if ltI x1.1 1=false then if gtI x1.1 1099511627776=false then if ltI x1.2.1 1=false then if gtI x1.2.1 8=false then(J3c (x1.2.2.2.1,x1)).bind λE=>if Jq E=false then(J3c (x1.2.2.2.2.1,x1)).bind λy=>if Jq y=false then(J3c (x1.2.2.2.2.2.1,x1)).bind λD=>if Jq D then some false else if eqI x1.2.1 8 then if neI x1.2.2.1 0=false then if neI x1.2.2.2.1 0 then some false else if neI x1.2.2.2.2.1 0 then some false else if neI x1.2.2.2.2.2.1 0 then some false else if leI (J0 x1.2.2.2.2.2.2.2) 8192 then(J1N x1).bind λA=>if A then(J4S x1.2.2.2.2.2.2.1).bind λB=>some B else some false else some false else some false else if eqI x1.2.1 7 then if neI x1.2.2.1 0=false then if neI x1.2.2.2.1 0 then some false else if neI x1.2.2.2.2.1 0 then some false else if neS x1.2.2.2.2.2.2.2 []then some false else if leI (J0 x1.2.2.2.2.2.2.2) 8192 then(J1N x1).bind λx=>if x then(J6s x1.2.2.2.2.2.2.1).bind λz=>some z else some false else some false else some false else if eqI x1.2.1 6 then if neI x1.2.2.1 0=false then if neI x1.2.2.2.1 0 then some false else if neI x1.2.2.2.2.1 0 then some false else if neI x1.2.2.2.2.2.1 0 then some false else if leI (J0 x1.2.2.2.2.2.2.2) 8192 then(J1N x1).bind λC=>if C then(J4S x1.2.2.2.2.2.2.1).bind λe=>some e else some false else some false else some false else if eqI x1.2.1 5 then if ltI x1.2.2.1 1=false then if gtI x1.2.2.1 1073741824 then some false else if eqI x1.2.2.2.1 0 then some false else if neI x1.2.2.2.2.1 0 then some false else if neI x1.2.2.2.2.2.1 0 then some false else if neS x1.2.2.2.2.2.2.2 []then some false else if leI (J0 x1.2.2.2.2.2.2.2) 8192 then(J1N x1).bind λw=>if w then(J4S x1.2.2.2.2.2.2.1).bind λv=>some v else some false else some false else some false else if eqI x1.2.1 4 then if ltI x1.2.2.1 1=false then if gtI x1.2.2.1 1073741824 then some false else if eqI x1.2.2.2.1 0 then some false else if neI x1.2.2.2.2.1 0 then some false else if neI x1.2.2.2.2.2.1 0 then some false else if neS x1.2.2.2.2.2.2.2 []then some false else if leI (J0 x1.2.2.2.2.2.2.2) 8192 then(J1N x1).bind λg=>if g then(J4S x1.2.2.2.2.2.2.1).bind λq=>some q else some false else some false else some false else if eqI x1.2.1 3 then if ltI x1.2.2.1 1=false then if gtI x1.2.2.1 1073741824 then some false else if eqI x1.2.2.2.1 0 then some false else if neI x1.2.2.2.2.1 0 then some false else if neI x1.2.2.2.2.2.1 0 then some false else if neS x1.2.2.2.2.2.2.2 []then some false else if leI (J0 x1.2.2.2.2.2.2.2) 8192 then(J1N x1).bind λh=>if h then(J4S x1.2.2.2.2.2.2.1).bind λr=>some r else some false else some false else some false else if eqI x1.2.1 2 then if ltI x1.2.2.1 1=false then if gtI x1.2.2.1 1073741824 then some false else if eqI x1.2.2.2.1 0 then some false else if neS x1.2.2.2.2.2.2.2 []then some false else if leI (J0 x1.2.2.2.2.2.2.2) 8192 then(J3I x1).bind λj=>if j then(J3N x1.2.2.2.2.2.2.1).bind λk=>some k else some false else some false else some false else if eqI x1.2.1 1 then if ltI x1.2.2.1 1=false then if gtI x1.2.2.1 1073741824 then some false else if neI x1.2.2.2.2.2.1 0 then some false else if neS x1.2.2.2.2.2.2.2 []then some false else if leI (J0 x1.2.2.2.2.2.2.2) 8192 then(J1N x1).bind λo=>if o then(J3N x1.2.2.2.2.2.2.1).bind λn=>some n else some false else some false else some false else if eqI x1.2.1 0 then if neI x1.2.2.1 0=false then if neI x1.2.2.2.1 0 then some false else if neI x1.2.2.2.2.1 0 then some false else if neI x1.2.2.2.2.2.1 0 then some false else if neS x1.2.2.2.2.2.2.2 []then some false else if leI (J0 x1.2.2.2.2.2.2.2) 8192 then none else some false else some false else none else some false else some false else some false else some false else some false else some false
def J49(x1:Jm):Option (Bool):=if geI x1.1 1 then if leI x1.1 x1.2.1 then if leI x1.2.1 1099511627776 then if geI x1.2.2.1 0 then if leI x1.2.2.1 x1.2.2.2.1 then if ltI x1.2.2.2.1 64 then if geI x1.2.2.2.2.1 0 then some (leI x1.2.2.2.2.1 8)else some false else some false else some false else some false else some false else some false else some false
def J5u(x1:T_api_Entry):Option (Bool):=if eqI x1.2.1 1=false then some (eqI x1.2.1 2)else some true
def J5o(x1:Jm×T_api_Entry):Option (Bool):=(J5u x1.2).bind λe=>if e then if geI x1.2.2.2.2.2.2.2.1.1 x1.1.2.2.1 then if leI x1.2.2.2.2.2.2.2.1.1 x1.1.2.2.2.1 then if geI x1.2.1 x1.1.1 then some (leI x1.2.1 x1.1.2.1)else some false else some false else some false else some false
def Jbc:JGY->Option ((JGY)⊕Bool):=fun(j,h,e,g)=>if ltI e h then(idx j e).bind λk=>(J5j k).bind λv=>if Jq v=false then(J5o (g,k)).bind λq=>if Jq q then some (.inr false)else if eqI e 0=false then(idx g.2.2.2.2.2 (JG .i64 e 1)).bind λo=>if ltI o.2.2.2.2.2.2.1.1 k.2.2.2.2.2.2.1.1 then if geI k.2.2.2.2.1 g.1 then some (.inr false)else some (.inl (j,h,J1 .i64 e 1,g))else(idx g.2.2.2.2.2 (JG .i64 e 1)).bind λn=>(J3L (n,k)).bind λr=>if geI r 0=false then if neI k.2.2.2.2.1 n.1 then some (.inr false)else some (.inl (j,h,J1 .i64 e 1,g))else some (.inr false)else if geI k.2.2.2.2.1 g.1 then some (.inr false)else some (.inl (j,h,J1 .i64 e 1,g))else some (.inr false)else some (.inr true)
def J1Z(x1:Jm):Option (Bool):=(J49 x1).bind λe=>if Jq e=false then if gtI (J0 x1.2.2.2.2.2) 4096 then some false else Jf (Jbc) (x1.2.2.2.2.2,J0 x1.2.2.2.2.2,0,x1)else some false
def J0J(x1:JjR):Option (JbE):=(J1Z x1.1).bind λj=>if Jq j=false then(J1Z x1.2).bind λh=>if Jq h then some ((0,0,0,0,0,[]),40)else(J37 x1).bind λk=>if Jq k then some ((0,0,0,0,0,[]),41)else if geI (J1P x1.1.2.2.2.2.1 x1.2.2.2.2.2.1) 8=false then if gtI (J1 .i64 (J0 x1.1.2.2.2.2.2) (J0 x1.2.2.2.2.2.2)) 4096 then some ((0,0,0,0,0,[]),21)else(J2y (x1.1.2.2.2.2.2,x1.2.2.2.2.2.2)).bind λe=>(J1Z (x1.1.1,x1.2.2.1,x1.1.2.2.1,x1.1.2.2.2.1,J1 .i64 (J1P x1.1.2.2.2.2.1 x1.2.2.2.2.2.1) 1,e)).bind λg=>if Jq g then some ((0,0,0,0,0,[]),13)else some ((x1.1.1,x1.2.2.1,x1.1.2.2.1,x1.1.2.2.2.1,J1 .i64 (J1P x1.1.2.2.2.2.1 x1.2.2.2.2.2.1) 1,e),0)else some ((0,0,0,0,0,[]),21)else some ((0,0,0,0,0,[]),40)
def J6M(x1:Unit):Option (Bool):=(J0J ((1,2,0,0,0,[]),3,3,0,0,0,[])).bind λe=>if eqI e.2 0 then if eqI e.1.1 1 then if eqI e.1.2.1 3 then some (eqI e.1.2.2.2.2.1 1)else some false else some false else some false
def JaR:JIq->Option ((JIq)⊕(JKv)):=fun(g,h,j,e)=>if ltI h g then(Jn (3,j)).bind λk=>(Jy 1 e [cvI .u8 (J1 .i64 97 k.1)]).bind λn=>some (.inl (g,J1 .i64 h 1,k.2,n))else some (.inr (toStr e,j))
def JaX:JIq->Option ((JIq)⊕(JKv)):=fun(e,j,g,h)=>if ltI j e then(Jn (3,g)).bind λk=>(Jy 1 h [cvI .u8 (J1 .i64 97 k.1)]).bind λn=>some (.inl (e,J1 .i64 j 1,k.2,n))else some (.inr (toStr h,g))
def J3s(x1:Jz):Option (JKv):=(Jn (5,x1)).bind λh=>(Jn (6,h.2)).bind λg=>if eqI g.1 0 then(Jn (14,g.2)).bind λe=>(mkS 1 0 e.1 0).bind λk=>Jf (JaR) (e.1,0,e.2,k)else(mkS 1 0 h.1 0).bind λj=>Jf (JaX) (h.1,0,g.2,j)
def J0n(x1:Jz):Option (JaY):=(Jn (10,x1)).bind λe=>if eqI e.1 0 then(Jn (3,e.2)).bind λg=>some (JG .i64 (-1) g.1,g.2)else if eqI e.1 1 then(Jn (16,e.2)).bind λh=>(idx [9223372036854775807,(-9223372036854775808),1099511627776,1099511627777,1073741824,1073741825,64,63,16,15,256,255,4294967296,65536,256,255] h.1).bind λk=>some (k,h.2)else(Jn (20,e.2)).bind λj=>some j
def J3C(x1:JaY):Option (J3j×Jz):=(Jn (12,x1.2)).bind λj=>(idx [1,1,2,2,2,3,4,5,6,7,2,4] j.1).bind λe=>if eqI e 1 then(Jn (x1.1,j.2)).bind λW=>(Jn (2,W.2)).bind λB=>if eqI e 2 then(J3s B.2).bind λV=>(J0z V.1 none (some (JaZ (J0 V.1) 12))).bind λY=>(Jn (40,V.2)).bind λU=>if eqI U.1 39 then(J0n U.2).bind λZ=>(J0n Z.2).bind λC=>some ((e,Z.1,C.1,Y),C.2)else some ((e,W.1,B.1,Y),U.2)else(Jn (40,B.2)).bind λz=>if eqI z.1 39 then(J0n z.2).bind λM=>(J0n M.2).bind λE=>some ((e,M.1,E.1,[]),E.2)else some ((e,W.1,B.1,[]),z.2)else if eqI e 2 then(Jn (x1.1,j.2)).bind λx=>(Jn (2,x.2)).bind λh=>if eqI e 2 then(J3s h.2).bind λy=>(J0z y.1 none (some (JaZ (J0 y.1) 12))).bind λH=>(Jn (40,y.2)).bind λv=>if eqI v.1 39 then(J0n v.2).bind λK=>(J0n K.2).bind λI=>some ((e,K.1,I.1,H),I.2)else some ((e,x.1,h.1,H),v.2)else(Jn (40,h.2)).bind λo=>if eqI o.1 39 then(J0n o.2).bind λQ=>(J0n Q.2).bind λG=>some ((e,Q.1,G.1,[]),G.2)else some ((e,x.1,h.1,[]),o.2)else if eqI e 3 then(Jn (x1.1,j.2)).bind λq=>(Jn (2,q.2)).bind λg=>if eqI e 2 then(J3s g.2).bind λr=>(J0z r.1 none (some (JaZ (J0 r.1) 12))).bind λP=>(Jn (40,r.2)).bind λA=>if eqI A.1 39 then(J0n A.2).bind λS=>(J0n S.2).bind λO=>some ((e,S.1,O.1,P),O.2)else some ((e,q.1,g.1,P),A.2)else(Jn (40,g.2)).bind λn=>if eqI n.1 39 then(J0n n.2).bind λD=>(J0n D.2).bind λL=>some ((e,D.1,L.1,[]),L.2)else some ((e,q.1,g.1,[]),n.2)else if eqI e 7 then(Jn (2,j.2)).bind λT=>(Jn (40,T.2)).bind λk=>if eqI k.1 39 then(J0n k.2).bind λF=>(J0n F.2).bind λR=>some ((e,F.1,R.1,[]),R.2)else some ((e,0,T.1,[]),k.2)else(Jn (40,j.2)).bind λw=>if eqI w.1 39 then(J0n w.2).bind λJ=>(J0n J.2).bind λN=>some ((e,J.1,N.1,[]),N.2)else some ((e,0,0,[]),w.2)
def J60(x1:JHd):Option (J4C×Jz):=(Jn (16,x1.2.2.2)).bind λe=>if eqI e.1 0 then some ((1,0,0,0,0,0,0,0,[]),e.2)else if eqI e.1 1 then some ((1,0,0,0,0,0,0,0,[]),e.2)else if eqI e.1 2 then(Jn (x1.1,e.2)).bind λn=>some ((3,0,n.1,0,0,0,0,0,[]),n.2)else if eqI e.1 3 then some ((4,0,0,0,0,0,0,0,[]),e.2)else if eqI e.1 4 then some ((5,0,0,0,0,0,0,0,[]),e.2)else if eqI e.1 5 then if x1.2.2.1 then(Jn (4,e.2)).bind λr=>(Jn (90,r.2)).bind λv=>(Jn (J1 .i64 x1.1 1,v.2)).bind λk=>(Jn (257,k.2)).bind λj=>some ((6,0,JG .i64 k.1 1,J3f .i64 r.1 v.1,j.1,0,0,0,[]),j.2)else(Jn (x1.2.1,e.2)).bind λq=>(J3C (x1.1,q.2)).bind λo=>some ((2,J1 .i64 1 q.1,0,0,0,o.1),o.2)else if eqI e.1 6 then some ((7,0,0,0,0,0,0,0,[]),e.2)else(Jn (x1.2.1,e.2)).bind λg=>(J3C (x1.1,g.2)).bind λh=>some ((2,J1 .i64 1 g.1,0,0,0,h.1),h.2)
def J8k:JOC->Option ((JOC)⊕(JP6)):=fun(j,e,h,k,g)=>if gtI h 0 then(J60 (j,5,e,k)).bind λn=>(Jy 80 g [n.1]).bind λo=>some (.inl (j,e,JG .i64 h 1,n.2,o))else some (.inr (g,k))
def J4a(x1:JHd):Option (JP6):=(Jn (J1 .i64 x1.2.1 1,x1.2.2.2)).bind λe=>Jf (J8k) (x1.1,x1.2.2.1,e.1,e.2,[(1,0,0,0,0,0,0,0,[]),(1,0,0,0,0,0,0,0,[])])
def Jen:Int×Int×(List (List UInt8))->Option ((Int×Int×(List (List UInt8)))⊕(List (List UInt8))):=fun(g,h,e)=>if ltI h g then(mkS 1 256 256 0).bind λj=>(Jy 16 e [toStr j]).bind λk=>some (.inl (g,J1 .i64 h 1,k))else some (.inr e)
def J7Z(x1:Int):Option (List (List UInt8)):=Jf (Jen) (x1,0,[])
def JbL(x1:Int):Option (J5Z):=if ltI x1 1=false then if gtI x1 64 then some (([],0,[],false,[]),1)else(J7Z x1).bind λe=>some ((e,0,[],false,[]),0)else some (([],0,[],false,[]),1)
def JE7(x1:Unit):Option (J07):=some (1,[],0)
def J8z(x1:Int):Option (J7c):=if ltI x1 1=false then if gtI x1 64 then some ((0,[],0),1)else some ((x1,[],0),0)else some ((0,[],0),1)
def J8F(x1:Int):Option (JpA):=if ltI x1 1=false then if gtI x1 64 then some ([],1)else(mkS 24 x1 x1 (0,0,0)).bind λe=>some (e,0)else some ([],1)
def Jbt(x1:JI):Option (J1R):=if ltI x1.1 1=false then if gtI x1.1 64=false then if ltI x1.2 1=false then if gtI x1.2 64 then some ((0,0,(0,[],0),(0,[],0),([],[]),[],[],[]),1)else(J8z x1.2).bind λg=>(J8F x1.1).bind λe=>some ((x1.1,1,(1,[],0),g.1,([],[]),[],e.1,[]),0)else some ((0,0,(0,[],0),(0,[],0),([],[]),[],[],[]),1)else some ((0,0,(0,[],0),(0,[],0),([],[]),[],[],[]),1)else some ((0,0,(0,[],0),(0,[],0),([],[]),[],[],[]),1)
def JbM(x1:JI):Option (J3z):=(Jbt x1).bind λg=>if neI g.2 0 then some (((0,0,(0,[],0),(0,[],0),([],[]),[],[],[]),[],0,[],false,[]),g.2)else(JbL x1.1).bind λe=>if neI e.2 0 then some (((0,0,(0,[],0),(0,[],0),([],[]),[],[],[]),[],0,[],false,[]),e.2)else some ((g.1,e.1),0)
def J21(x1:JI):Option (Bool):=if geI x1.1 0 then some (ltI x1.1 x1.2)else some false
def J0A(x1:J2f):Option (Bool):=if leI (J0 x1.2) 12 then if x1.1=false then some (eqS x1.2 [])else some true else some false
def J1F(x1:J1e):Option (Bool):=if geI x1.1 0 then if ltI x1.1 64 then if geI x1.2.1 0 then if ltI x1.2.1 16 then(J0A x1.2.2.1).bind λg=>if g then(J0A x1.2.2.2).bind λe=>some e else some false else some false else some false else some false else some false
def J2H(x1:T_api_Entry):Option (Jpn):=if eqI x1.2.1 1 then(J1F x1.2.2.2.2.2.2.1).bind λg=>if eqI x1.2.1 2 then if g then if gtI x1.2.2.2.1 0 then if geI x1.2.2.2.2.2.1 1 then if leI x1.2.2.2.2.2.1 x1.2.2.2.1 then if geI x1.2.2.1 1 then some ((x1.1,x1.2.1,x1.2.2.1,x1.2.2.2.1,x1.2.2.2.2.1,x1.2.2.2.2.2.1,x1.2.2.2.2.2.2.1,[]),leI x1.2.2.1 1073741824)else some ((x1.1,x1.2.1,x1.2.2.1,x1.2.2.2.1,x1.2.2.2.2.1,x1.2.2.2.2.2.1,x1.2.2.2.2.2.2.1,[]),false)else some ((x1.1,x1.2.1,x1.2.2.1,x1.2.2.2.1,x1.2.2.2.2.1,x1.2.2.2.2.2.1,x1.2.2.2.2.2.2.1,[]),false)else some ((x1.1,x1.2.1,x1.2.2.1,x1.2.2.2.1,x1.2.2.2.2.1,x1.2.2.2.2.2.1,x1.2.2.2.2.2.2.1,[]),false)else some ((x1.1,x1.2.1,x1.2.2.1,x1.2.2.2.1,x1.2.2.2.2.1,x1.2.2.2.2.2.1,x1.2.2.2.2.2.2.1,[]),false)else some ((x1.1,x1.2.1,x1.2.2.1,x1.2.2.2.1,x1.2.2.2.2.1,x1.2.2.2.2.2.1,x1.2.2.2.2.2.2.1,[]),false)else if g then if geI x1.2.2.1 1 then some ((x1.1,x1.2.1,x1.2.2.1,x1.2.2.2.1,x1.2.2.2.2.1,0,x1.2.2.2.2.2.2.1,[]),leI x1.2.2.1 1073741824)else some ((x1.1,x1.2.1,x1.2.2.1,x1.2.2.2.1,x1.2.2.2.2.1,0,x1.2.2.2.2.2.2.1,[]),false)else some ((x1.1,x1.2.1,x1.2.2.1,x1.2.2.2.1,x1.2.2.2.2.1,0,x1.2.2.2.2.2.2.1,[]),false)else if eqI x1.2.1 2 then(J1F x1.2.2.2.2.2.2.1).bind λe=>if eqI x1.2.1 2 then if e then if gtI x1.2.2.2.1 0 then if geI x1.2.2.2.2.2.1 1 then if leI x1.2.2.2.2.2.1 x1.2.2.2.1 then if geI x1.2.2.1 1 then some ((x1.1,x1.2.1,x1.2.2.1,x1.2.2.2.1,x1.2.2.2.2.1,x1.2.2.2.2.2.1,x1.2.2.2.2.2.2.1,[]),leI x1.2.2.1 1073741824)else some ((x1.1,x1.2.1,x1.2.2.1,x1.2.2.2.1,x1.2.2.2.2.1,x1.2.2.2.2.2.1,x1.2.2.2.2.2.2.1,[]),false)else some ((x1.1,x1.2.1,x1.2.2.1,x1.2.2.2.1,x1.2.2.2.2.1,x1.2.2.2.2.2.1,x1.2.2.2.2.2.2.1,[]),false)else some ((x1.1,x1.2.1,x1.2.2.1,x1.2.2.2.1,x1.2.2.2.2.1,x1.2.2.2.2.2.1,x1.2.2.2.2.2.2.1,[]),false)else some ((x1.1,x1.2.1,x1.2.2.1,x1.2.2.2.1,x1.2.2.2.2.1,x1.2.2.2.2.2.1,x1.2.2.2.2.2.2.1,[]),false)else some ((x1.1,x1.2.1,x1.2.2.1,x1.2.2.2.1,x1.2.2.2.2.1,x1.2.2.2.2.2.1,x1.2.2.2.2.2.2.1,[]),false)else if e then if geI x1.2.2.1 1 then some ((x1.1,x1.2.1,x1.2.2.1,x1.2.2.2.1,x1.2.2.2.2.1,0,x1.2.2.2.2.2.2.1,[]),leI x1.2.2.1 1073741824)else some ((x1.1,x1.2.1,x1.2.2.1,x1.2.2.2.1,x1.2.2.2.2.1,0,x1.2.2.2.2.2.2.1,[]),false)else some ((x1.1,x1.2.1,x1.2.2.1,x1.2.2.2.1,x1.2.2.2.2.1,0,x1.2.2.2.2.2.2.1,[]),false)else if eqI x1.2.1 3 then if geI x1.2.2.1 1 then if leI x1.2.2.1 1073741824 then some ((x1.1,x1.2.1,x1.2.2.1,x1.2.2.2.1,0,0,(0,0,(false,[]),false,[]),[]),gtI x1.2.2.2.1 0)else some ((x1.1,x1.2.1,x1.2.2.1,x1.2.2.2.1,0,0,(0,0,(false,[]),false,[]),[]),false)else some ((x1.1,x1.2.1,x1.2.2.1,x1.2.2.2.1,0,0,(0,0,(false,[]),false,[]),[]),false)else if eqI x1.2.1 4 then if geI x1.2.2.1 1 then if leI x1.2.2.1 1073741824 then some ((x1.1,x1.2.1,x1.2.2.1,x1.2.2.2.1,0,0,(0,0,(false,[]),false,[]),[]),gtI x1.2.2.2.1 0)else some ((x1.1,x1.2.1,x1.2.2.1,x1.2.2.2.1,0,0,(0,0,(false,[]),false,[]),[]),false)else some ((x1.1,x1.2.1,x1.2.2.1,x1.2.2.2.1,0,0,(0,0,(false,[]),false,[]),[]),false)else if eqI x1.2.1 5 then if geI x1.2.2.1 1 then if leI x1.2.2.1 1073741824 then some ((x1.1,x1.2.1,x1.2.2.1,x1.2.2.2.1,0,0,(0,0,(false,[]),false,[]),[]),gtI x1.2.2.2.1 0)else some ((x1.1,x1.2.1,x1.2.2.1,x1.2.2.2.1,0,0,(0,0,(false,[]),false,[]),[]),false)else some ((x1.1,x1.2.1,x1.2.2.1,x1.2.2.2.1,0,0,(0,0,(false,[]),false,[]),[]),false)else if eqI x1.2.1 6 then some ((x1.1,x1.2.1,0,0,0,0,(0,0,(false,[]),false,[]),x1.2.2.2.2.2.2.2),leI (J0 x1.2.2.2.2.2.2.2) 8192)else if eqI x1.2.1 8 then some ((x1.1,x1.2.1,0,0,0,0,(0,0,(false,[]),false,[]),x1.2.2.2.2.2.2.2),leI (J0 x1.2.2.2.2.2.2.2) 8192)else if eqI x1.2.1 7 then if geI x1.2.2.2.2.2.2.1.1 0 then some ((x1.1,x1.2.1,0,0,0,x1.2.2.2.2.2.1,(x1.2.2.2.2.2.2.1.1,0,(false,[]),false,[]),[]),ltI x1.2.2.2.2.2.2.1.1 64)else some ((x1.1,x1.2.1,0,0,0,x1.2.2.2.2.2.1,(x1.2.2.2.2.2.2.1.1,0,(false,[]),false,[]),[]),false)else some ((x1.1,x1.2.1,0,0,0,0,(0,0,(false,[]),false,[]),[]),false)
def J02(x1:T_api_Entry):Option (Bool):=(J2H x1).bind λe=>if e.2 then if eqT J4 e.1 x1 then if geI x1.1 1 then if leI x1.1 1099511627776 then(J21 (x1.2.2.2.1,x1.1)).bind λg=>if g then(J21 (x1.2.2.2.2.1,x1.1)).bind λh=>if h then(J21 (x1.2.2.2.2.2.1,x1.1)).bind λj=>some j else some false else some false else some false else some false else some false else some false
def J2m(x1:J07):Option (Int):=some (JG .i64 (J1 .i64 x1.1 (J0 x1.2.1)) 1)
def Jai(z3:Int×J07):Option ((Int×J07)⊕Bool):=if ltI z3.1 (J0 z3.2.2.1)then(idx z3.2.2.1 z3.1).bind λe=>if neI e.1 (J1 .i64 z3.2.1 z3.1)=false then(idx z3.2.2.1 z3.1).bind λg=>(J02 g).bind λh=>if Jq h then some (.inr false)else some (.inl (J1 .i64 z3.1 1,z3.2))else some (.inr false)else some (.inr true)
def J0i(x1:J07):Option (Bool):=if ltI x1.1 1=false then if gtI x1.1 1099511627776=false then if gtI (J0 x1.2.1) 4096=false then if ltI x1.2.2 (JG .i64 x1.1 1)=false then(J2m x1).bind λe=>if gtI x1.2.2 e then some false else Jf (Jai) (0,x1)else some false else some false else some false else some false
def J2G(x1:J73):Option (J73):=(J0i x1.1).bind λg=>if Jq g then some ((0,[],0),26)else(J2m x1.1).bind λe=>if gtI x1.2 e then some ((0,[],0),14)else some ((x1.1.1,x1.1.2.1,J1P x1.1.2.2 x1.2),0)
def J3X(x1:J07):Option (Int):=(J0i x1).bind λg=>if Jq g then some 0 else(J2m x1).bind λe=>some e
def Jx(x1:Int):Option (J0L):=some (5,0,0,(false,[]),x1)
def JfF(e:Jfp):Option ((Jfp)⊕Bool):=if ltI e.1 (J0 e.2.2.2.2.2.2)then(idx e.2.2.2.2.2.2 e.1).bind λk=>if ltI k 0=false then(idx e.2.2.2.2.2.2 e.1).bind λj=>if gtI j e.2.2.2.1=false then if gtI e.1 0 then(idx e.2.2.2.2.2.2 (JG .i64 e.1 1)).bind λg=>(idx e.2.2.2.2.2.2 e.1).bind λh=>if gtI g h then some (.inr false)else some (.inl (J1 .i64 e.1 1,e.2))else some (.inl (J1 .i64 e.1 1,e.2))else some (.inr false)else some (.inr false)else some (.inr true)
def Jfm(z2:Jfp):Option ((Jfp)⊕Bool):=if ltI z2.1 (J0 z2.2.2.2.2.2.1)then(idx z2.2.2.2.2.2.1 z2.1).bind λg=>if ltI g 1=false then(idx z2.2.2.2.2.2.1 z2.1).bind λh=>if gtI h z2.2.2.2.1=false then if gtI z2.1 0 then(idx z2.2.2.2.2.2.1 (JG .i64 z2.1 1)).bind λj=>(idx z2.2.2.2.2.2.1 z2.1).bind λe=>if geI j e then some (.inr false)else some (.inl (J1 .i64 z2.1 1,z2.2))else some (.inl (J1 .i64 z2.1 1,z2.2))else some (.inr false)else some (.inr false)else Option.map .inr (Jf (JfF) (0,z2.2))
def Jg9(e:Jfp):Option ((Jfp)⊕Bool):=if ltI e.1 (J0 e.2.2.2.2.2.2)then(idx e.2.2.2.2.2.2 e.1).bind λj=>if ltI j 0=false then(idx e.2.2.2.2.2.2 e.1).bind λh=>if gtI h e.2.2.2.1=false then if gtI e.1 0 then(idx e.2.2.2.2.2.2 (JG .i64 e.1 1)).bind λk=>(idx e.2.2.2.2.2.2 e.1).bind λg=>if gtI k g then some (.inr false)else some (.inl (J1 .i64 e.1 1,e.2))else some (.inl (J1 .i64 e.1 1,e.2))else some (.inr false)else some (.inr false)else some (.inr true)
def Jgt(e:Jfp):Option ((Jfp)⊕Bool):=if ltI e.1 (J0 e.2.2.2.2.2.1)then(idx e.2.2.2.2.2.1 e.1).bind λk=>if ltI k 1=false then(idx e.2.2.2.2.2.1 e.1).bind λh=>if gtI h e.2.2.2.1=false then if gtI e.1 0 then(idx e.2.2.2.2.2.1 (JG .i64 e.1 1)).bind λg=>(idx e.2.2.2.2.2.1 e.1).bind λj=>if geI g j then some (.inr false)else some (.inl (J1 .i64 e.1 1,e.2))else some (.inl (J1 .i64 e.1 1,e.2))else some (.inr false)else some (.inr false)else Option.map .inr (Jf (Jg9) (0,e.2))
def J2l(x1:Ju):Option (Bool):=if ltI x1.1 1=false then if gtI x1.1 1073741824=false then if ltI x1.2.1 1=false then if gtI x1.2.1 3=false then if ltI x1.2.2.1 0=false then if gtI x1.2.2.1 1099511627776=false then if gtI (J0 x1.2.2.2.2.1) 4096=false then if gtI (J0 x1.2.2.2.2.2) 8 then some false else if ltI x1.2.2.2.1 0=false then if gtI x1.2.2.2.1 x1.2.2.1=false then if neI x1.2.1 2 then if neI x1.2.2.2.1 0 then some false else Jf (Jfm) (0,x1)else Jf (Jgt) (0,x1)else some false else some false else some false else some false else some false else some false else some false else some false else some false
def J9V(z2:J2t):Option ((J2t)⊕Bool):=if ltI z2.2 (J0 z2.1)then(idx z2.1 z2.2).bind λg=>(J2l g).bind λh=>if Jq h=false then if gtI z2.2 0 then(idx z2.1 (JG .i64 z2.2 1)).bind λj=>(idx z2.1 z2.2).bind λe=>if geI j.1 e.1 then some (.inr false)else some (.inl (z2.1,J1 .i64 z2.2 1))else some (.inl (z2.1,J1 .i64 z2.2 1))else some (.inr false)else some (.inr true)
def J0Z(x1:List Ju):Option (Bool):=if gtI (J0 x1) 64 then some false else Jf (J9V) (x1,0)
def J1Y(z2:JvN):Option ((JvN)⊕Int):=if ltI z2.2.2 (J0 z2.1)then(idx z2.1 z2.2.2).bind λe=>if eqI e.1 z2.2.1 then some (.inr z2.2.2)else some (.inl (z2.1,z2.2.1,J1 .i64 z2.2.2 1))else some (.inr (-1))
def J1q(x1:J2t):Option (Int):=Jf (J1Y) (x1.1,x1.2,0)
def Jf0:JH6->Option ((JH6)⊕(J2t)):=fun(e,j,h,g)=>if ltI h (J0 e)then(idx e h).bind λy=>if ltI y.1 j then(idx e h).bind λv=>(Jy 80 g [v]).bind λr=>some (.inl (e,j,J1 .i64 h 1,r))else Option.map .inr ((Jy 80 g [(j,1,0,0,[],[])]).bind λx=>(J0z e (some (J0 g)) none).bind λw=>(Jy 80 x w).bind λk=>some (k,0))else Option.map .inr ((Jy 80 g [(j,1,0,0,[],[])]).bind λo=>(J0z e (some (J0 g)) none).bind λn=>(Jy 80 o n).bind λq=>some (q,0))
def J6F(x1:J2t):Option (J2t):=(J0Z x1.1).bind λg=>if Jq g then some ([],15)else if ltI x1.2 1=false then if gtI x1.2 1073741824 then some ([],1)else(J1q x1).bind λe=>if geI e 0 then some ([],25)else if eqI (J0 x1.1) 64 then some ([],21)else Jf (Jf0) (x1.1,x1.2,0,[])else some ([],1)
def JfM:Int×Int×J9×T_api_Row->Option ((Int×Int×J9×T_api_Row)⊕(T_api_Row×Bool)):=fun(h,g,e,j)=>if ltI g (J0 e.2.2.2.2.2.2.2)then(idx e.2.2.2.2.2.2.2 g).bind λk=>if eqI k.1 h then(idx e.2.2.2.2.2.2.2 g).bind λn=>some (.inr (n,true))else some (.inl (h,J1 .i64 g 1,e,j))else some (.inr ((0,0,0),false))
def J4k(x1:J1R):Option (T_api_Row×Bool):=Jf (JfM) (x1.2,0,x1.1,0,0,0)
def J2d(x1:JuB):Option (Bool):=if neI x1.1.1 x1.2.1 then if eqT J0a x1.1.2.1 x1.2.2.1 then if eqI x1.1.2.2 2=false then some (eqI x1.2.2.2 2)else some true else some false else some false
def J5m(x1:T_api_Grant):Option (Bool):=if geI x1.1 1 then if leI x1.1 1073741824 then if geI x1.2.1.1 0 then if ltI x1.2.1.1 64 then if geI x1.2.1.2 0 then if ltI x1.2.1.2 16 then if eqI x1.2.2 1=false then some (eqI x1.2.2 2)else some true else some false else some false else some false else some false else some false else some false
def J7I(x1:JuB):Option (Bool):=if neI x1.1.2.1.1 x1.2.2.1.1 then some (ltI x1.1.2.1.1 x1.2.2.1.1)else if neI x1.1.2.1.2 x1.2.2.1.2 then some (ltI x1.1.2.1.2 x1.2.2.1.2)else some (ltI x1.1.1 x1.2.1)
def Jj0:Int×Int×J01×JI->Option ((Int×Int×J01×JI)⊕Int):=fun(h,g,e,j)=>if ltI g (J0 e.1)then(idx e.1 g).bind λk=>if eqI k.1 h then(idx e.1 g).bind λn=>if eqT J0a n.2.1 j then(idx e.1 g).bind λo=>some (.inr o.2.2)else some (.inl (h,J1 .i64 g 1,e,j))else some (.inl (h,J1 .i64 g 1,e,j))else some (.inr 0)
def J2X(x1:JzI):Option (Int):=Jf (Jj0) (x1.2.1,0,x1.1,x1.2.2)
def JfH:JbC->Option ((JbC)⊕((Jgk)⊕Bool)):=fun(g,h,e)=>if geI h 0 then(idx e.1 h).bind λq=>(idx e.1 g).bind λj=>if eqT J0a q.2.1 j.2.1 then(idx e.1 h).bind λk=>(idx e.1 g).bind λo=>(J2d (k,o)).bind λn=>if n then Option.map .inr (some (.inr false))else some (.inl (g,JG .i64 h 1,e))else some (.inr (.inl (J1 .i64 g 1,e)))else some (.inr (.inl (J1 .i64 g 1,e)))
def Jgx:JbC->Option ((JbC)⊕((Jgk)⊕Bool)):=fun(g,h,e)=>if geI h 0 then(idx e.1 h).bind λk=>(idx e.1 g).bind λn=>if eqT J0a k.2.1 n.2.1 then(idx e.1 h).bind λo=>(idx e.1 g).bind λq=>(J2d (o,q)).bind λj=>if j then Option.map .inr (some (.inr false))else some (.inl (g,JG .i64 h 1,e))else some (.inr (.inl (J1 .i64 g 1,e)))else some (.inr (.inl (J1 .i64 g 1,e)))
def JfT:JGN->Option ((JGN)⊕((Jgk)⊕Bool)):=fun(e,g,h,j)=>if ltI g e then(idx h.2 g).bind λk=>if eqI k.1 j.1 then Option.map .inr (some (.inr false))else some (.inl (e,J1 .i64 g 1,h,j))else some (.inr (.inl (J1 .i64 e 1,h)))
def Jg2(z20:Jgk):Option ((Jgk)⊕Bool):=if ltI z20.1 (J0 z20.2.2)then(idx z20.2.2 z20.1).bind λe=>(J5m e).bind λh=>if Jq h=false then(J2X (z20.2,e.1,e.2.1)).bind λg=>if geI g e.2.2 then some (.inr false)else Jf (JfT) (z20.1,0,z20.2,e)else some (.inr false)else some (.inr true)
def Jg7(z2:Jgk):Option ((Jgk)⊕Bool):=if ltI z2.1 (J0 z2.2.1)then(idx z2.2.1 z2.1).bind λh=>(J5m h).bind λj=>if Jq j=false then if gtI z2.1 0 then(idx z2.2.1 (JG .i64 z2.1 1)).bind λk=>(idx z2.2.1 z2.1).bind λg=>(J7I (k,g)).bind λe=>if Jq e then some (.inr false)else Jf (JfH) (z2.1,JG .i64 z2.1 1,z2.2)else Jf (Jgx) (z2.1,JG .i64 z2.1 1,z2.2)else some (.inr false)else Option.map .inr (Jf (Jg2) (0,z2.2))
def J1n(x1:J01):Option (Bool):=if gtI (J1 .i64 (J0 x1.1) (J0 x1.2)) 1024 then some false else Jf (Jg7) (0,x1)
def Jae(z2:JzL):Option ((JzL)⊕Bool):=if ltI z2.1 16 then(inb 16 z2.1).bind λ_=>(vat z2.2.2.2 (Int.toNat z2.1)).bind λg=>(J0A g).bind λh=>if Jq h=false then if eqI z2.2.2.1 0 then(inb 16 z2.1).bind λ_=>(vat z2.2.2.2 (Int.toNat z2.1)).bind λe=>if e.1 then some (.inr false)else some (.inl (J1 .i64 z2.1 1,z2.2))else some (.inl (J1 .i64 z2.1 1,z2.2))else some (.inr false)else some (.inr true)
def J1U(x1:JW):Option (Bool):=Jf (Jae) (0,x1)
def J1J(x1:JW):Option (Bool):=if geI x1.1 0 then if ltI x1.1 64 then if geI x1.2.1 0 then some (leI x1.2.1 1099511627776)else some false else some false else some false
def J1y(x1:JW):Option (Bool):=(J1J x1).bind λg=>if g then(J1U x1).bind λe=>some e else some false
def J08:Jp3->Option ((Jp3)⊕((TQ107)⊕Bool)):=fun(k,e,g,h,j)=>if ltI g e then(idx h.2.1 g).bind λn=>if eqI n.1.1 j.1.1 then Option.map .inr (some (.inr false))else some (.inl (k,e,J1 .i64 g 1,h,j))else some (.inr (.inl (k,J1 .i64 e 1,h)))
def JfO:Jp3->Option ((Jp3)⊕((TQ107)⊕Bool)):=fun(k,e,h,g,j)=>if ltI h e then(idx g.2.1 h).bind λn=>if eqI n.1.1 j.1.1 then Option.map .inr (some (.inr false))else some (.inl (k,e,J1 .i64 h 1,g,j))else some (.inr (.inl (k,J1 .i64 e 1,g)))
def Jft:Jp3->Option ((Jp3)⊕((TQ107)⊕Bool)):=fun(j,h,g,e,k)=>if ltI g h then(idx e.2.1 g).bind λn=>if eqI n.1.1 k.1.1 then Option.map .inr (some (.inr false))else some (.inl (j,h,J1 .i64 g 1,e,k))else some (.inr (.inl (j,J1 .i64 h 1,e)))
def JeZ:Jp3->Option ((Jp3)⊕((TQ107)⊕Bool)):=fun(k,h,e,g,j)=>if ltI e h then(idx g.2.1 e).bind λn=>if eqI n.1.1 j.1.1 then Option.map .inr (some (.inr false))else some (.inl (k,h,J1 .i64 e 1,g,j))else some (.inr (.inl (k,J1 .i64 h 1,g)))
def J5v:TQ107->Option ((TQ107)⊕Bool):=fun(j,g,h)=>if ltI g j then(idx h.2.1 g).bind λe=>(J1y e.1).bind λk=>if Jq k=false then if e.2.1 then if ltI e.2.2.1 1=false then if gtI e.2.2.1 e.1.2.1=false then if Jq e.2.1 then if neI e.2.2.1 0 then some (.inr false)else Jf (J08) (j,g,0,h,e)else Jf (JfO) (j,g,0,h,e)else some (.inr false)else some (.inr false)else if Jq e.2.1 then if neI e.2.2.1 0 then some (.inr false)else Jf (Jft) (j,g,0,h,e)else Jf (JeZ) (j,g,0,h,e)else some (.inr false)else some (.inr true)
def J0j(x1:J00):Option (Bool):=if ltI x1.1 1=false then if gtI x1.1 64=false then if gtI (J0 x1.2.1) x1.1=false then if ltI x1.2.2 0=false then if gtI x1.2.2 (J1P 0 (JG .i64 (J0 x1.2.1) 1))then some false else Jf (J5v) (J0 x1.2.1,0,x1)else some false else some false else some false else some false
def J6V(x1:Int):Option (Bool):=if geI x1 0 then some (leI x1 1099511627776)else some false
def JeJ(z2:JfL):Option ((JfL)⊕Bool):=if ltI z2.1 (J0 z2.2)then(idx z2.2 z2.1).bind λe=>(J6V e.1).bind λh=>if Jq h=false then(J6V e.2.1).bind λj=>if Jq j=false then(J6V e.2.2).bind λg=>if Jq g=false then if eqI e.2.1 0 then if neI e.2.2 0 then some (.inr false)else some (.inl (J1 .i64 z2.1 1,z2.2))else some (.inl (J1 .i64 z2.1 1,z2.2))else some (.inr false)else some (.inr false)else some (.inr false)else some (.inr true)
def J1D(x1:List T_api_Row):Option (Bool):=if ltI (J0 x1) 1=false then if gtI (J0 x1) 64 then some false else Jf (JeJ) (0,x1)else some false
def J6w(z2:(List T_api_Row)×JI):Option (((List T_api_Row)×JI)⊕Bool):=if ltI z2.2.2 (J0 z2.1)then(idx z2.1 z2.2.2).bind λe=>if ltI e.1 0=false then if geI e.1 z2.2.1=false then if ltI e.2.1 1=false then if gtI e.2.1 e.2.2=false then if gtI e.2.2 1099511627776=false then if gtI z2.2.2 0 then(idx z2.1 (JG .i64 z2.2.2 1)).bind λg=>if geI g.1 e.1 then some (.inr false)else some (.inl (z2.1,z2.2.1,J1 .i64 z2.2.2 1))else some (.inl (z2.1,z2.2.1,J1 .i64 z2.2.2 1))else some (.inr false)else some (.inr false)else some (.inr false)else some (.inr false)else some (.inr false)else some (.inr true)
def J1L(x1:JpA):Option (Bool):=Jf (J6w) (x1.1,x1.2,0)
def J4q(x1:J9):Option (Bool):=if geI x1.1 1 then if leI x1.1 64 then if geI x1.2.1 1 then if leI x1.2.1 1073741825 then(J0i x1.2.2.1).bind λj=>if j then(J0j x1.2.2.2.1).bind λh=>if h then(J1n x1.2.2.2.2.1).bind λk=>if k then(J0Z x1.2.2.2.2.2.1).bind λn=>if n then(J1D x1.2.2.2.2.2.2.1).bind λg=>if g then if eqI (J0 x1.2.2.2.2.2.2.1) x1.1 then(J1L (x1.2.2.2.2.2.2.2,x1.1)).bind λe=>some e else some false else some false else some false else some false else some false else some false else some false else some false else some false else some false
def JeN(e:JbK):Option ((JbK)⊕Bool):=if ltI e.1 (J0 e.2.2.2.2.2.1.2)then(idx e.2.2.2.2.2.1.2 e.1).bind λg=>if geI g.2.1.1 e.2.1 then some (.inr false)else some (.inl (J1 .i64 e.1 1,e.2))else some (.inr true)
def Jfs(e:JbK):Option ((JbK)⊕Bool):=if ltI e.1 (J0 e.2.2.2.2.2.1.1)then(idx e.2.2.2.2.2.1.1 e.1).bind λg=>if geI g.2.1.1 e.2.1 then some (.inr false)else some (.inl (J1 .i64 e.1 1,e.2))else Option.map .inr (Jf (JeN) (0,e.2))
def Jg8(e:JbK):Option ((JbK)⊕Bool):=if ltI e.1 (J0 e.2.2.2.2.1.2.1)then(idx e.2.2.2.2.1.2.1 e.1).bind λg=>if geI g.1.1 e.2.1 then some (.inr false)else(J4k (e.2,g.1.1)).bind λh=>if h.2 then some (.inr false)else some (.inl (J1 .i64 e.1 1,e.2))else Option.map .inr (Jf (Jfs) (0,e.2))
def JfI(z3:JbK):Option ((JbK)⊕Bool):=if ltI z3.1 (J0 z3.2.2.2.2.2.2.1)then(idx z3.2.2.2.2.2.2.1 z3.1).bind λe=>if geI e.1 z3.2.2.1 then some (.inr false)else some (.inl (J1 .i64 z3.1 1,z3.2))else Option.map .inr (Jf (Jg8) (0,z3.2))
def JL(x1:J9):Option (Bool):=(J4q x1).bind λe=>if Jq e then some false else Jf (JfI) (0,x1)
def J9d(x1:J9):Option (Jdl):=(JL x1).bind λg=>if Jq g then some ((0,0,(0,[],0),(0,[],0),([],[]),[],[],[]),0,15)else if gtI x1.2.1 1073741824 then some ((0,0,(0,[],0),(0,[],0),([],[]),[],[],[]),0,21)else(J6F (x1.2.2.2.2.2.1,x1.2.1)).bind λe=>if neI e.2 0 then some ((0,0,(0,[],0),(0,[],0),([],[]),[],[],[]),0,e.2)else some ((x1.1,J1 .i64 x1.2.1 1,x1.2.2.1,x1.2.2.2.1,x1.2.2.2.2.1,e.1,x1.2.2.2.2.2.2),JG .i64 (J1 .i64 x1.2.1 1) 1,0)
def J8T(x1:Jw):Option (JqL):=(J9d x1.1).bind λe=>if neI e.2.2 0 then some (((0,0,(0,[],0),(0,[],0),([],[]),[],[],[]),[],0,[],false,[]),0,e.2.2)else some ((e.1,x1.2),e.2.1,0)
def JN(x1:T_api_Entry):Option (Bool):=if eqI x1.2.1 1=false then some (eqI x1.2.1 2)else some true
def J1k(x1:J07×T_api_Entry):Option (Jt0):=(J0i x1.1).bind λk=>if Jq k then some ((0,[],0),0,26)else if eqI (J0 x1.1.2.1) 4096=false then(J2m x1.1).bind λj=>if eqI j 1099511627776 then some ((0,[],0),0,21)else(J2m x1.1).bind λe=>(J02 (J1 .i64 e 1,x1.2.2)).bind λn=>if Jq n then some ((0,[],0),0,12)else(J1g 128 x1.1.2.1).bind λh=>(Jy 128 h [(J1 .i64 e 1,x1.2.2)]).bind λg=>some ((x1.1.1,g,x1.1.2.2),J1 .i64 e 1,0)else some ((0,[],0),0,21)
def J0M(x1:J73):Option (JjS):=(J0i x1.1).bind λg=>if Jq g then some ((0,0,0,0,0,0,(0,0,(false,[]),false,[]),[]),26)else if ltI x1.2 x1.1.1=false then(J2m x1.1).bind λe=>if gtI x1.2 e then some ((0,0,0,0,0,0,(0,0,(false,[]),false,[]),[]),14)else(idx x1.1.2.1 (JG .i64 x1.2 x1.1.1)).bind λh=>some (h,0)else some ((0,0,0,0,0,0,(0,0,(false,[]),false,[]),[]),14)
def Jbs(x1:(List T_api_Row)×Int×T_api_Row):Option (List T_api_Row):=(J1g 24 x1.1).bind λe=>(inb (List.length e) x1.2.1).bind λ_=>(lat e (Int.toNat x1.2.1)).bind λ_=>some (J0w e (Int.toNat x1.2.1) x1.2.2)
def J2V(x1:JHU):Option (JpA):=(J1D x1.1).bind λh=>if Jq h then some ([],28)else(J02 x1.2).bind λg=>if Jq g then some ([],12)else if neI x1.2.2.1 7 then some (x1.1,0)else if geI x1.2.2.2.2.2.2.2.1.1 (J0 x1.1)then some ([],1)else(idx x1.1 x1.2.2.2.2.2.2.2.1.1).bind λe=>(Jbs (x1.1,x1.2.2.2.2.2.2.2.1.1,J1P e.1 x1.2.2.2.2.2.2.1,e.2)).bind λj=>some (j,0)
def J0P(x1:J2t):Option (Int):=(J1q x1).bind λe=>some e
def Je9:JH6->Option ((JH6)⊕(List Ju)):=fun(g,j,e,h)=>if ltI e (J0 g)then(idx g e).bind λk=>if neI k.1 j then(idx g e).bind λn=>(Jy 80 h [n]).bind λo=>some (.inl (g,j,J1 .i64 e 1,o))else some (.inl (g,j,J1 .i64 e 1,h))else some (.inr h)
def J4L(x1:J2t):Option (List Ju):=Jf (Je9) (x1.1,x1.2,0,[])
def J2T(x1:(List Ju)×Int×Ju):Option (List Ju):=(J1g 80 x1.1).bind λe=>(inb (List.length e) x1.2.1).bind λ_=>(lat e (Int.toNat x1.2.1)).bind λ_=>some (J0w e (Int.toNat x1.2.1) x1.2.2)
def J2n(x1:Ju):Option (Ju):=if eqI x1.2.1 2 then if eqI (J0 x1.2.2.2.2.1) 0=false then(idx x1.2.2.2.2.1 (JG .i64 (J0 x1.2.2.2.2.1) 1)).bind λe=>if leI e x1.2.2.2.1 then some (x1.1,1,x1.2.2.1,0,x1.2.2.2.2)else some x1 else some (x1.1,1,x1.2.2.1,0,x1.2.2.2.2)else some x1
def JiO:JNQ->Option ((JNQ)⊕(J2t)):=fun(j,n,g,k,e,h)=>if ltI g (J0 e.2.2.2.2.1)then(idx e.2.2.2.2.1 g).bind λv=>if neI v k.2.2.2.2.2.1 then(idx e.2.2.2.2.1 g).bind λr=>(Jy 8 h [r]).bind λw=>some (.inl (j,n,J1 .i64 g 1,k,e,w))else some (.inl (j,n,J1 .i64 g 1,k,e,h))else Option.map .inr (if eqI (J0 h) (J0 e.2.2.2.2.1)then some ([],13)else(J2n (e.1,e.2.1,e.2.2.1,e.2.2.2.1,h,e.2.2.2.2.2)).bind λq=>(J2T (j,n,q)).bind λo=>some (o,0))
def J0G(x1:(List Ju)×T_api_Entry):Option (J2t):=(J0Z x1.1).bind λr=>if Jq r then some ([],15)else(J02 x1.2).bind λq=>if Jq q then some ([],12)else if eqI x1.2.2.2.1 0 then some (x1.1,0)else(J1q (x1.1,x1.2.2.2.1)).bind λg=>if ltI g 0 then some ([],16)else(idx x1.1 g).bind λe=>if neI x1.2.2.2.2.1 e.2.2.1 then some ([],13)else if eqI x1.2.2.1 1 then(J1g 8 e.2.2.2.2.1).bind λo=>(Jy 8 o [x1.2.1]).bind λn=>(J2n (e.1,e.2.1,x1.2.1,e.2.2.2.1,n,e.2.2.2.2.2)).bind λw=>(J2T (x1.1,g,w)).bind λv=>some (v,0)else if eqI x1.2.2.1 2 then Jf (JiO) (x1.1,g,0,x1.2,(e.1,e.2.1,x1.2.1,e.2.2.2),[])else if eqI x1.2.2.1 4 then(J2n (e.1,3,x1.2.1,0,e.2.2.2.2.1,[])).bind λh=>(J2T (x1.1,g,h)).bind λj=>some (j,0)else(J4L (x1.1,x1.2.2.2.1)).bind λk=>some (k,0)
def J7S:TQ107->Option ((TQ107)⊕Int):=fun(h,e,g)=>if ltI e (J0 g.2.1)then(idx g.2.1 e).bind λj=>if eqI j.1.1 h then some (.inr e)else some (.inl (h,J1 .i64 e 1,g))else some (.inr (-1))
def J1K(x1:J7c):Option (Int):=Jf (J7S) (x1.2,0,x1.1)
def J1p(x1:J7c):Option (Int):=(J0j x1.1).bind λg=>if Jq g then some (-1)else(J1K x1).bind λe=>some e
def J2W(x1:J7c):Option (JW×Bool):=(J1p x1).bind λe=>if ltI e 0 then some ((0,0,Vector.replicate 16 (false,[])),false)else(idx x1.1.2.1 e).bind λg=>some (g.1,true)
def J3Y(x1:J1R):Option (Int):=(JL x1.1).bind λh=>if Jq h=false then if ltI x1.2 0=false then if geI x1.2 x1.1.1 then some 0 else(J2W (x1.1.2.2.2.1,x1.2)).bind λe=>if e.2 then some e.1.2.1 else(J4k x1).bind λg=>if g.2 then some g.1.2.2 else(idx x1.1.2.2.2.2.2.2.1 x1.2).bind λj=>some j.1 else some 0 else some 0
def J1h(x1:Jw9):Option (Jdl):=(JL x1.1).bind λI=>if Jq I then some ((0,0,(0,[],0),(0,[],0),([],[]),[],[],[]),0,15)else if gtI x1.2.2.2.1 0 then(J0P (x1.1.2.2.2.2.2.1,x1.2.2.2.1)).bind λC=>if ltI C 0 then some ((0,0,(0,[],0),(0,[],0),([],[]),[],[],[]),0,16)else(idx x1.1.2.2.2.2.2.1 C).bind λB=>(JN (x1.2.1,x1.2.2.1,x1.2.2.2.1,B.2.2.1,0,x1.2.2.2.2.2.2)).bind λG=>if G then(J3Y (x1.1,x1.2.2.2.2.2.2.2.1.1)).bind λH=>(J1k (x1.1.2.2.1,x1.2.1,x1.2.2.1,x1.2.2.2.1,B.2.2.1,H,x1.2.2.2.2.2.2)).bind λj=>if neI j.2.2 0 then some ((0,0,(0,[],0),(0,[],0),([],[]),[],[],[]),0,j.2.2)else(J0M (j.1,j.2.1)).bind λE=>(J0G (x1.1.2.2.2.2.2.1,E.1)).bind λA=>if neI A.2 0 then some ((0,0,(0,[],0),(0,[],0),([],[]),[],[],[]),0,A.2)else(J2V (x1.1.2.2.2.2.2.2.1,E.1)).bind λk=>if neI k.2 0 then some ((0,0,(0,[],0),(0,[],0),([],[]),[],[],[]),0,k.2)else some ((x1.1.1,x1.1.2.1,j.1,x1.1.2.2.2.1,x1.1.2.2.2.2.1,A.1,k.1,x1.1.2.2.2.2.2.2.2),j.2.1,0)else(J1k (x1.1.2.2.1,x1.2.1,x1.2.2.1,x1.2.2.2.1,B.2.2.1,0,x1.2.2.2.2.2.2)).bind λh=>if neI h.2.2 0 then some ((0,0,(0,[],0),(0,[],0),([],[]),[],[],[]),0,h.2.2)else(J0M (h.1,h.2.1)).bind λy=>(J0G (x1.1.2.2.2.2.2.1,y.1)).bind λn=>if neI n.2 0 then some ((0,0,(0,[],0),(0,[],0),([],[]),[],[],[]),0,n.2)else(J2V (x1.1.2.2.2.2.2.2.1,y.1)).bind λw=>if neI w.2 0 then some ((0,0,(0,[],0),(0,[],0),([],[]),[],[],[]),0,w.2)else some ((x1.1.1,x1.1.2.1,h.1,x1.1.2.2.2.1,x1.1.2.2.2.2.1,n.1,w.1,x1.1.2.2.2.2.2.2.2),h.2.1,0)else(JN (x1.2.1,x1.2.2.1,x1.2.2.2.1,0,0,x1.2.2.2.2.2.2)).bind λD=>if D then(J3Y (x1.1,x1.2.2.2.2.2.2.2.1.1)).bind λF=>(J1k (x1.1.2.2.1,x1.2.1,x1.2.2.1,x1.2.2.2.1,0,F,x1.2.2.2.2.2.2)).bind λg=>if neI g.2.2 0 then some ((0,0,(0,[],0),(0,[],0),([],[]),[],[],[]),0,g.2.2)else(J0M (g.1,g.2.1)).bind λx=>(J0G (x1.1.2.2.2.2.2.1,x.1)).bind λv=>if neI v.2 0 then some ((0,0,(0,[],0),(0,[],0),([],[]),[],[],[]),0,v.2)else(J2V (x1.1.2.2.2.2.2.2.1,x.1)).bind λr=>if neI r.2 0 then some ((0,0,(0,[],0),(0,[],0),([],[]),[],[],[]),0,r.2)else some ((x1.1.1,x1.1.2.1,g.1,x1.1.2.2.2.1,x1.1.2.2.2.2.1,v.1,r.1,x1.1.2.2.2.2.2.2.2),g.2.1,0)else(J1k (x1.1.2.2.1,x1.2.1,x1.2.2.1,x1.2.2.2.1,0,0,x1.2.2.2.2.2.2)).bind λe=>if neI e.2.2 0 then some ((0,0,(0,[],0),(0,[],0),([],[]),[],[],[]),0,e.2.2)else(J0M (e.1,e.2.1)).bind λz=>(J0G (x1.1.2.2.2.2.2.1,z.1)).bind λq=>if neI q.2 0 then some ((0,0,(0,[],0),(0,[],0),([],[]),[],[],[]),0,q.2)else(J2V (x1.1.2.2.2.2.2.2.1,z.1)).bind λo=>if neI o.2 0 then some ((0,0,(0,[],0),(0,[],0),([],[]),[],[],[]),0,o.2)else some ((x1.1.1,x1.1.2.1,e.1,x1.1.2.2.2.1,x1.1.2.2.2.2.1,q.1,o.1,x1.1.2.2.2.2.2.2.2),e.2.1,0)
def Jki(z2:(List UInt8)×T_api_Row):Option (((List UInt8)×T_api_Row)⊕(List UInt8)):=if ltI z2.2.2.2 z2.2.2.1 then(Jn3 .u64 (cvI .u64 z2.2.1) (cvI .u64 (J3f .i64 8 z2.2.2.2))).bind λe=>(J6n z2.1 (toStr [cvI .u8 e])).bind λg=>some (.inl (g,z2.2.1,z2.2.2.1,J1 .i64 z2.2.2.2 1))else some (.inr z2.1)
def JP(x1:J0C):Option (List UInt8):=if ltI x1.2.2 1=false then if gtI x1.2.2 8 then some x1.1 else Jf (Jki) (x1.1,x1.2.1,x1.2.2,0)else some x1.1
def Jdv:(List UInt8)×Int×(List T_api_Row)->Option (((List UInt8)×Int×(List T_api_Row))⊕(J3S)):=fun(h,g,e)=>if ltI g (J0 e)then(idx e g).bind λr=>(JP (h,r.1,8)).bind λn=>(idx e g).bind λk=>(JP (n,k.2.1,8)).bind λq=>(idx e g).bind λo=>(JP (q,o.2.2,8)).bind λj=>some (.inl (j,J1 .i64 g 1,e))else some (.inr (h,0))
def J8g(x1:List T_api_Row):Option (J3S):=(J1D x1).bind λg=>if Jq g then some ([],28)else(JP ([],J0 x1,2)).bind λe=>Jf (Jdv) (e,0,x1)
def Jcm:(List UInt8)×(List Int)×Int->Option (((List UInt8)×(List Int)×Int)⊕(List UInt8)):=fun(h,g,e)=>if ltI e (J0 g)then(idx g e).bind λj=>(JP (h,j,8)).bind λk=>some (.inl (k,g,J1 .i64 e 1))else some (.inr h)
def J5E(x1:(List UInt8)×(List Int)):Option (List UInt8):=Jf (Jcm) (x1.1,x1.2,0)
def Je5:(List Ju)×(List UInt8)×Int->Option (((List Ju)×(List UInt8)×Int)⊕(J3S)):=fun(g,j,h)=>if ltI h (J0 g)then(idx g h).bind λe=>(JP (j,e.1,4)).bind λv=>(JP (v,e.2.1,1)).bind λr=>(JP (r,e.2.2.1,8)).bind λx=>(JP (x,e.2.2.2.1,8)).bind λw=>(JP (w,J0 e.2.2.2.2.1,2)).bind λk=>(J5E (k,e.2.2.2.2.1)).bind λo=>(JP (o,J0 e.2.2.2.2.2,1)).bind λn=>(J5E (n,e.2.2.2.2.2)).bind λq=>some (.inl (g,q,J1 .i64 h 1))else some (.inr (j,0))
def J7V(x1:List Ju):Option (J3S):=(J0Z x1).bind λg=>if Jq g then some ([],15)else(JP ([],J0 x1,2)).bind λe=>Jf (Je5) (x1,e,0)
def Jfv(e:Int×J14):Option ((Int×J14)⊕Bool):=if ltI e.1 (J0 e.2.2.2.1)then(idx e.2.2.2.1 e.1).bind λg=>if geI g.1 e.2.2.1 then some (.inr false)else some (.inl (J1 .i64 e.1 1,e.2))else some (.inr true)
def J6H(x1:J14):Option (Bool):=if ltI x1.1 1=false then if gtI x1.1 64=false then if ltI x1.2.1 1=false then if gtI x1.2.1 1073741825=false then(J0Z x1.2.2.1).bind λg=>if Jq g=false then(J1L (x1.2.2.2.1,x1.1)).bind λe=>if Jq e=false then(J1D x1.2.2.2.2).bind λh=>if Jq h=false then if neI (J0 x1.2.2.2.2) x1.1 then some false else Jf (Jfv) (0,x1)else some false else some false else some false else some false else some false else some false else some false
def JdP:(List UInt8)×Int×J14->Option (((List UInt8)×Int×J14)⊕(J3S)):=fun(h,g,e)=>if ltI g (J0 e.2.2.2.1)then(idx e.2.2.2.1 g).bind λk=>(JP (h,k.1,1)).bind λv=>(idx e.2.2.2.1 g).bind λr=>(JP (v,r.2.1,8)).bind λw=>(idx e.2.2.2.1 g).bind λn=>(JP (w,n.2.2,8)).bind λj=>some (.inl (j,J1 .i64 g 1,e))else Option.map .inr ((J8g e.2.2.2.2).bind λo=>(J6n h o.1).bind λq=>some (q,0))
def J7N(x1:J14):Option (J3S):=(J6H x1).bind λj=>if Jq j then some ([],24)else(J7V x1.2.2.1).bind λe=>(JP ([],x1.1,2)).bind λn=>(JP (n,x1.2.1,4)).bind λo=>(JP (o,J0 e.1,4)).bind λh=>(J6n h e.1).bind λg=>(JP (g,J0 x1.2.2.2.1,1)).bind λk=>Jf (JdP) (k,0,x1)
def Jfo:Int×J00×(List T_api_Row)->Option ((Int×J00×(List T_api_Row))⊕(List T_api_Row)):=fun(g,e,h)=>if ltI g 64 then(J1K (e,g)).bind λj=>if geI j 0 then(idx e.2.1 j).bind λq=>if q.2.1 then(idx e.2.1 j).bind λn=>(idx e.2.1 j).bind λk=>(Jy 24 h [(g,n.2.2.1,k.1.2.1)]).bind λo=>some (.inl (J1 .i64 g 1,e,o))else some (.inl (J1 .i64 g 1,e,h))else some (.inl (J1 .i64 g 1,e,h))else some (.inr h)
def J6K(x1:J00):Option (List T_api_Row):=(J0j x1).bind λe=>if Jq e then some []else Jf (Jfo) (0,x1,[])
def Jo0:TQ8->Option ((TQ8)⊕((JI5)⊕(Jpd))):=fun(o,x,B,h,y,A,z,v,w,r,g,q,j,e,k,n)=>if ltI h B then(idx x h).bind λC=>if eqI C.1 o then(Jy 24 g [C]).bind λD=>some (.inl (o,x,B,J1 .i64 h 1,y,A,z,v,w,r,D,q,j,e,k,n))else some (.inl (o,x,B,J1 .i64 h 1,y,A,z,v,w,r,g,q,j,e,k,n))else some (.inr (.inl (J1 .i64 o 1,y,A,z,v,w,r,g,q,j,e,k,n)))
def Jnr:TQ8->Option ((TQ8)⊕((JI5)⊕(Jpd))):=fun(g,x,r,e,A,y,w,z,B,v,j,h,q,k,o,n)=>if ltI e r then(idx x e).bind λC=>if eqI C.1 g then(Jy 24 j [C]).bind λD=>some (.inl (g,x,r,J1 .i64 e 1,A,y,w,z,B,v,D,h,q,k,o,n))else some (.inl (g,x,r,J1 .i64 e 1,A,y,w,z,B,v,j,h,q,k,o,n))else some (.inr (.inl (J1 .i64 g 1,A,y,w,z,B,v,j,h,q,k,o,n)))
def Jn6:JI5->Option ((JI5)⊕(Jpd)):=fun(h,e,w,y,r,q,v,n,x,o,g,k,j)=>if ltI h e.1 then(J4k (e,h)).bind λB=>if B.2 then(Jy 24 n [B.1]).bind λC=>(J6K e.2.2.2.1).bind λA=>Jf (Jo0) (h,A,J0 A,0,e,w,y,r,q,v,C,x,o,g,k,j)else(J6K e.2.2.2.1).bind λz=>Jf (Jnr) (h,z,J0 z,0,e,w,y,r,q,v,n,x,o,g,k,j)else some (.inr ((o,g,k,n,j),0))
def JcV(x1:J9):Option (Jpd):=(JL x1).bind λe=>if Jq e then some ((0,0,[],[],[]),15)else Jf (Jn6) (0,x1,[],0,0,[],[],[],[],x1.1,x1.2.1,x1.2.2.2.2.2.1,x1.2.2.2.2.2.2.1)
def Jau(x1:J9):Option (Jdl):=(JcV x1).bind λg=>if neI g.2 0 then some ((0,0,(0,[],0),(0,[],0),([],[]),[],[],[]),0,g.2)else(J7N g.1).bind λh=>if gtI (J0 h.1) 8192 then some ((0,0,(0,[],0),(0,[],0),([],[]),[],[],[]),0,21)else(J1h (x1,0,6,0,0,0,0,(0,0,(false,[]),false,[]),h.1)).bind λe=>if neI e.2.2 0 then some ((0,0,(0,[],0),(0,[],0),([],[]),[],[],[]),0,e.2.2)else(J2G (e.1.2.2.1,e.2.1)).bind λj=>some ((e.1.1,e.1.2.1,j.1,e.1.2.2.2),e.2.1,0)
def J5C(x1:Jw):Option (JqL):=(Jau x1.1).bind λe=>if neI e.2.2 0 then some (((0,0,(0,[],0),(0,[],0),([],[]),[],[],[]),[],0,[],false,[]),0,e.2.2)else some ((e.1,x1.2),e.2.1,0)
def J2E(x1:J1R):Option (J9):=(J3X x1.1.2.2.1).bind λg=>(J2G (x1.1.2.2.1,JaZ x1.2 g)).bind λe=>if eqI e.2 0 then some (x1.1.1,x1.1.2.1,e.1,x1.1.2.2.2)else some x1.1
def J4o(x1:J1R):Option (J9×JW×Int):=(JL x1.1).bind λg=>if Jq g then some ((0,0,(0,[],0),(0,[],0),([],[]),[],[],[]),(0,0,Vector.replicate 16 (false,[])),15)else(J2W (x1.1.2.2.2.1,x1.2)).bind λe=>if Jq e.2 then some ((0,0,(0,[],0),(0,[],0),([],[]),[],[],[]),(0,0,Vector.replicate 16 (false,[])),18)else(J2E (x1.1,e.1.2.1)).bind λh=>some (h,e.1,0)
def Jli:(List UInt8)×Int×JI->Option (((List UInt8)×Int×JI)⊕((JKa)⊕Int)):=fun(h,g,e)=>if ltI e.2 8 then if eqI (JAo .u32 g 1) 1 then(Jn3 .u32 g 1).bind λk=>some (.inl (h,JgH .u32 k 2197175160,e.1,J1 .i64 e.2 1))else(Jn3 .u32 g 1).bind λj=>some (.inl (h,j,e.1,J1 .i64 e.2 1))else some (.inr (.inl (h,g,J1 .i64 e.1 1)))
def Jmb:JKa->Option ((JKa)⊕Int):=fun(e,h,g)=>if ltI g (J0 e)then(Jow e g).bind λj=>Jf (Jli) (e,JgH .u32 h (cvI .u32 j),g,0)else some (.inr (JJV .u32 h))
def J5W(x1:List UInt8):Option (Int):=Jf (Jmb) (x1,4294967295,0)
def J2i(x1:JW):Option (Int):=(J1J x1).bind λg=>if Jq g then some 1 else(J1U x1).bind λe=>if Jq e then some 22 else some 0
def J4p(x1:Int):Option (List UInt8):=(mkS 1 x1 x1 0).bind λe=>some (toStr e)
def Jes:(List UInt8)×Int×JW->Option (((List UInt8)×Int×JW)⊕(J3S)):=fun(h,e,g)=>if ltI e 16 then(inb 16 e).bind λ_=>(vat g.2.2 (Int.toNat e)).bind λG=>if G.1 then(inb 16 e).bind λ_=>(vat g.2.2 (Int.toNat e)).bind λH=>(JP (h,J0 H.2,1)).bind λn=>(inb 16 e).bind λ_=>(vat g.2.2 (Int.toNat e)).bind λB=>(inb 16 e).bind λ_=>(vat g.2.2 (Int.toNat e)).bind λz=>(J4p (JG .i64 12 (J0 z.2))).bind λq=>(J6n B.2 q).bind λA=>(J6n n A).bind λw=>some (.inl (w,J1 .i64 e 1,g))else(JP (h,255,1)).bind λx=>(inb 16 e).bind λ_=>(vat g.2.2 (Int.toNat e)).bind λy=>(inb 16 e).bind λ_=>(vat g.2.2 (Int.toNat e)).bind λD=>(J4p (JG .i64 12 (J0 D.2))).bind λv=>(J6n y.2 v).bind λo=>(J6n x o).bind λk=>some (.inl (k,J1 .i64 e 1,g))else Option.map .inr ((J4p (JG .i64 244 (J0 h))).bind λr=>(J6n h r).bind λj=>(J5W j).bind λF=>(JP (j,cvI .i64 F,4)).bind λE=>(JP (E,g.2.1,8)).bind λC=>some (C,0))
def J4G(x1:JW):Option (J3S):=(J2i x1).bind λe=>if neI e 0 then some ([],e)else(JP ([],x1.2.1,8)).bind λg=>(JP (g,x1.1,4)).bind λh=>Jf (Jes) (h,0,x1)
def J7k(x1:J0l):Option (JNC):=(J1g 16 x1.1).bind λg=>(J1g 8 x1.2.2.1).bind λe=>(J1g 48 x1.2.2.2.2).bind λh=>some (x1.2.1,e,x1.2.2.2.1,g,h)
def Jcp:(List Int)×Int×Int×(List Int)->Option (((List Int)×Int×Int×(List Int))⊕(List Int)):=fun(g,j,e,h)=>if ltI e (J0 g)then(idx g e).bind λk=>if neI k j then(idx g e).bind λn=>(Jy 8 h [n]).bind λo=>some (.inl (g,j,J1 .i64 e 1,o))else some (.inl (g,j,J1 .i64 e 1,h))else some (.inr h)
def J5r(x1:JbG):Option (List Int):=Jf (Jcp) (x1.1,x1.2,0,[])
def J1B(x1:Int×(List Int)×Bool×Int×(List UInt8)×Int×(List (List UInt8))×(List JO)):Option (JNC):=(J0z x1.2.2.2.2.1 none (some x1.2.2.2.2.2.1)).bind λg=>(inb (List.length x1.2.2.2.2.2.2.1) x1.2.2.2.1).bind λ_=>(lat x1.2.2.2.2.2.2.1 (Int.toNat x1.2.2.2.1)).bind λj=>(J0z j (some x1.2.2.2.2.2.1) none).bind λk=>(J6n g k).bind λe=>(inb (List.length x1.2.2.2.2.2.2.1) x1.2.2.2.1).bind λ_=>(lat x1.2.2.2.2.2.2.1 (Int.toNat x1.2.2.2.1)).bind λ_=>(J5r (x1.2.1,x1.2.2.2.1)).bind λh=>some (x1.1,h,x1.2.2.1,J0w x1.2.2.2.2.2.2.1 (Int.toNat x1.2.2.2.1) e,x1.2.2.2.2.2.2.2)
def J2Z(x1:J0l×JO):Option (Bool):=if leI x1.2.2.1 x1.1.2.1=false then if gtI x1.2.2.1 1099511627776=false then if ltI x1.2.2.2.1 0=false then if geI x1.2.2.2.1 (J0 x1.1.1)=false then if ltI x1.2.2.2.2.1 0=false then if geI x1.2.2.2.2.1 (J0 x1.1.1)=false then if ltI x1.2.2.2.2.2.1 0=false then if geI x1.2.2.2.2.2.1 256 then some false else if eqI x1.2.1 1 then some (eqT JM x1.2 (x1.2.1,x1.2.2.1,0,0,0,0))else if eqI x1.2.1 6 then some (eqT JM x1.2 (x1.2.1,x1.2.2.1,0,0,0,0))else if eqI x1.2.1 2 then some (eqT JM x1.2 (x1.2.1,x1.2.2.1,0,x1.2.2.2.2.1,0,0))else if eqI x1.2.1 3 then some (eqT JM x1.2 (x1.2.1,x1.2.2.1,0,0,x1.2.2.2.2.2.1,0))else if eqI x1.2.1 4 then if eqI x1.2.2.2.2.2.2 0 then some false else some (eqT JM x1.2 (x1.2.1,x1.2.2.1,x1.2.2.2.1,0,x1.2.2.2.2.2))else if eqI x1.2.1 5 then some (eqT JM x1.2 (x1.2.1,x1.2.2.1,x1.2.2.2.1,0,0,0))else some false else some false else some false else some false else some false else some false else some false else some false
def J9Z(z9:Int×J0l):Option ((Int×J0l)⊕Bool):=if ltI z9.1 (J0 z9.2.2.2.2.2)then(idx z9.2.2.2.2.2 z9.1).bind λe=>(J2Z (z9.2,e)).bind λg=>if Jq g then some (.inr false)else some (.inl (J1 .i64 z9.1 1,z9.2))else some (.inr true)
def Jak:JI9->Option ((JI9)⊕Bool):=fun(h,g,e)=>if ltI g (J0 e.2.2.1)then(idx e.2.2.1 g).bind λo=>if ltI o 0=false then(idx e.2.2.1 g).bind λk=>if geI k h=false then if gtI g 0 then(idx e.2.2.1 (JG .i64 g 1)).bind λj=>(idx e.2.2.1 g).bind λn=>if geI j n then some (.inr false)else some (.inl (h,J1 .i64 g 1,e))else some (.inl (h,J1 .i64 g 1,e))else some (.inr false)else some (.inr false)else Option.map .inr (Jf (J9Z) (0,e))
def J9P:JI9->Option ((JI9)⊕Bool):=fun(e,g,h)=>if ltI g e then(idx h.1 g).bind λj=>if neI (J0 j) 256 then some (.inr false)else some (.inl (e,J1 .i64 g 1,h))else Option.map .inr (Jf (Jak) (e,0,h))
def J30(x1:J0l):Option (Bool):=if ltI (J0 x1.1) 1=false then if gtI (J0 x1.1) 64=false then if ltI x1.2.1 0=false then if gtI x1.2.1 1099511627776=false then if gtI (J0 x1.2.2.2.2) 64 then some false else Jf (J9P) (J0 x1.1,0,x1)else some false else some false else some false else some false
def J2p(x1:J5Z):Option (Int):=(J30 x1.1).bind λe=>if Jq e then some 15 else if x1.1.2.2.2.1 then some 10 else if ltI x1.2 0=false then if geI x1.2 (J0 x1.1.1)then some 1 else some 0 else some 1
def Jiw:JIh->Option ((JIh)⊕(List Int)):=fun(e,h,k,g,j)=>if ltI g (J0 e)then if Jq k then(idx e g).bind λz=>if geI z h then(Jy 8 j [h]).bind λw=>(idx e g).bind λC=>if neI C h then(idx e g).bind λy=>(Jy 8 w [y]).bind λx=>some (.inl (e,h,true,J1 .i64 g 1,x))else some (.inl (e,h,true,J1 .i64 g 1,w))else(idx e g).bind λB=>if neI B h then(idx e g).bind λA=>(Jy 8 j [A]).bind λn=>some (.inl (e,h,k,J1 .i64 g 1,n))else some (.inl (e,h,k,J1 .i64 g 1,j))else(idx e g).bind λr=>if neI r h then(idx e g).bind λq=>(Jy 8 j [q]).bind λv=>some (.inl (e,h,k,J1 .i64 g 1,v))else some (.inl (e,h,k,J1 .i64 g 1,j))else Option.map .inr (if Jq k then(Jy 8 j [h]).bind λo=>some o else some j)
def J51(x1:JbG):Option (List Int):=Jf (Jiw) (x1.1,x1.2,false,0,[])
def J5I:TQ7->Option ((TQ7)⊕(J5Z)):=fun(j,x,w,A,v,z,B,e,y,r,n,k,q,g,o)=>if ltI j (J0 g)then(inb (List.length g) j).bind λ_=>(lat g (Int.toNat j)).bind λh=>if eqI h.1 4 then(inb (List.length e) h.2.2.1).bind λ_=>(lat e (Int.toNat h.2.2.1)).bind λC=>(inb (List.length (toByt C)) h.2.2.2.2.1).bind λ_=>(lat (toByt C) (Int.toNat h.2.2.2.2.1)).bind λE=>(inb (List.length (toByt C)) h.2.2.2.2.1).bind λ_=>(lat (toByt C) (Int.toNat h.2.2.2.2.1)).bind λ_=>(inb (List.length e) h.2.2.1).bind λ_=>(lat e (Int.toNat h.2.2.1)).bind λ_=>some (.inl (J1 .i64 j 1,x,w,A,v,z,B,J0w e (Int.toNat h.2.2.1) (toStr (J0w (toByt C) (Int.toNat h.2.2.2.2.1) (JgH .u8 E h.2.2.2.2.2))),y,r,n,k,q,g,o))else if eqI h.1 5 then(J51 (k,h.2.2.1)).bind λD=>some (.inl (J1 .i64 j 1,x,w,A,v,z,B,e,y,r,n,D,q,g,o))else if eqI h.1 6 then some (.inl (J1 .i64 j 1,x,w,A,v,z,B,e,y,r,n,k,true,g,o))else some (.inl (J1 .i64 j 1,x,w,A,v,z,B,e,y,r,n,k,q,g,o))else some (.inr ((e,n,k,q,o),0))
def JtC:TQ7->Option ((TQ7)⊕(J5Z)):=fun(j,r,z,x,A,v,w,e,y,B,k,o,q,g,n)=>if ltI j (J0 g)then(inb (List.length g) j).bind λ_=>(lat g (Int.toNat j)).bind λh=>if eqI h.1 4 then(inb (List.length e) h.2.2.1).bind λ_=>(lat e (Int.toNat h.2.2.1)).bind λC=>(inb (List.length (toByt C)) h.2.2.2.2.1).bind λ_=>(lat (toByt C) (Int.toNat h.2.2.2.2.1)).bind λE=>(inb (List.length (toByt C)) h.2.2.2.2.1).bind λ_=>(lat (toByt C) (Int.toNat h.2.2.2.2.1)).bind λ_=>(inb (List.length e) h.2.2.1).bind λ_=>(lat e (Int.toNat h.2.2.1)).bind λ_=>some (.inl (J1 .i64 j 1,r,z,x,A,v,w,J0w e (Int.toNat h.2.2.1) (toStr (J0w (toByt C) (Int.toNat h.2.2.2.2.1) (JgH .u8 E h.2.2.2.2.2))),y,B,k,o,q,g,n))else if eqI h.1 5 then(J51 (o,h.2.2.1)).bind λD=>some (.inl (J1 .i64 j 1,r,z,x,A,v,w,e,y,B,k,D,q,g,n))else if eqI h.1 6 then some (.inl (J1 .i64 j 1,r,z,x,A,v,w,e,y,B,k,o,true,g,n))else some (.inl (J1 .i64 j 1,r,z,x,A,v,w,e,y,B,k,o,q,g,n))else some (.inr ((e,k,o,q,n),0))
def Jti:TQ7->Option ((TQ7)⊕(J5Z)):=fun(j,r,z,x,v,y,A,e,w,B,n,k,q,g,o)=>if ltI j (J0 g)then(inb (List.length g) j).bind λ_=>(lat g (Int.toNat j)).bind λh=>if eqI h.1 4 then(inb (List.length e) h.2.2.1).bind λ_=>(lat e (Int.toNat h.2.2.1)).bind λC=>(inb (List.length (toByt C)) h.2.2.2.2.1).bind λ_=>(lat (toByt C) (Int.toNat h.2.2.2.2.1)).bind λD=>(inb (List.length (toByt C)) h.2.2.2.2.1).bind λ_=>(lat (toByt C) (Int.toNat h.2.2.2.2.1)).bind λ_=>(inb (List.length e) h.2.2.1).bind λ_=>(lat e (Int.toNat h.2.2.1)).bind λ_=>some (.inl (J1 .i64 j 1,r,z,x,v,y,A,J0w e (Int.toNat h.2.2.1) (toStr (J0w (toByt C) (Int.toNat h.2.2.2.2.1) (JgH .u8 D h.2.2.2.2.2))),w,B,n,k,q,g,o))else if eqI h.1 5 then(J51 (k,h.2.2.1)).bind λE=>some (.inl (J1 .i64 j 1,r,z,x,v,y,A,e,w,B,n,E,q,g,o))else if eqI h.1 6 then some (.inl (J1 .i64 j 1,r,z,x,v,y,A,e,w,B,n,k,true,g,o))else some (.inl (J1 .i64 j 1,r,z,x,v,y,A,e,w,B,n,k,q,g,o))else some (.inr ((e,n,k,q,o),0))
def JsP:TQ7->Option ((TQ7)⊕(J5Z)):=fun(j,v,B,z,r,y,w,e,A,x,o,n,q,h,k)=>if ltI j (J0 h)then(inb (List.length h) j).bind λ_=>(lat h (Int.toNat j)).bind λg=>if eqI g.1 4 then(inb (List.length e) g.2.2.1).bind λ_=>(lat e (Int.toNat g.2.2.1)).bind λC=>(inb (List.length (toByt C)) g.2.2.2.2.1).bind λ_=>(lat (toByt C) (Int.toNat g.2.2.2.2.1)).bind λD=>(inb (List.length (toByt C)) g.2.2.2.2.1).bind λ_=>(lat (toByt C) (Int.toNat g.2.2.2.2.1)).bind λ_=>(inb (List.length e) g.2.2.1).bind λ_=>(lat e (Int.toNat g.2.2.1)).bind λ_=>some (.inl (J1 .i64 j 1,v,B,z,r,y,w,J0w e (Int.toNat g.2.2.1) (toStr (J0w (toByt C) (Int.toNat g.2.2.2.2.1) (JgH .u8 D g.2.2.2.2.2))),A,x,o,n,q,h,k))else if eqI g.1 5 then(J51 (n,g.2.2.1)).bind λE=>some (.inl (J1 .i64 j 1,v,B,z,r,y,w,e,A,x,o,E,q,h,k))else if eqI g.1 6 then some (.inl (J1 .i64 j 1,v,B,z,r,y,w,e,A,x,o,n,true,h,k))else some (.inl (J1 .i64 j 1,v,B,z,r,y,w,e,A,x,o,n,q,h,k))else some (.inr ((e,o,n,q,k),0))
def Jaa:TQ5->Option ((TQ5)⊕(J5Z)):=fun(C,v,D,g,y,z,w,A,x,B,r,n,o,h,k,j,e,q)=>if ltI g (J0 e)then if Jq D then(inb (List.length e) g).bind λ_=>(lat e (Int.toNat g)).bind λI=>if eqI I.1 1 then some (.inl (C,v,true,J1 .i64 g 1,y,z,w,A,x,B,r,n,o,h,k,j,e,q))else if eqI I.1 2 then(inb (List.length e) g).bind λ_=>(lat e (Int.toNat g)).bind λK=>(J1B (h,k,j,K.2.2.2.1,v,256,r,q)).bind λE=>some (.inl (C,v,true,J1 .i64 g 1,y,z,w,A,x,B,E.2.2.2.1,n,o,E.1,E.2.1,E.2.2.1,e,E.2.2.2.2))else if eqI I.1 3 then(inb (List.length e) g).bind λ_=>(lat e (Int.toNat g)).bind λJ=>(J1B (h,k,j,C,v,J.2.2.2.2.1,r,q)).bind λG=>some (.inl (C,v,true,J1 .i64 g 1,y,z,w,A,x,B,G.2.2.2.1,n,o,G.1,G.2.1,G.2.2.1,e,G.2.2.2.2))else some (.inl (C,v,D,J1 .i64 g 1,y,z,w,A,x,B,r,n,o,h,k,j,e,q))else Option.map .inr (if Jq D then(J1B (h,k,j,C,v,256,r,q)).bind λH=>Jf (J5I) (0,y,z,w,A,x,B,H.2.2.2.1,n,o,H.1,H.2.1,H.2.2.1,e,H.2.2.2.2)else Jf (JtC) (0,y,z,w,A,x,B,r,n,o,h,k,j,e,q))else Option.map .inr (if Jq D then(J1B (h,k,j,C,v,256,r,q)).bind λF=>Jf (Jti) (0,y,z,w,A,x,B,F.2.2.2.1,n,o,F.1,F.2.1,F.2.2.1,e,F.2.2.2.2)else Jf (JsP) (0,y,z,w,A,x,B,r,n,o,h,k,j,e,q))
def Jad:TQ6->Option ((TQ6)⊕(J5Z)):=fun(C,z,g,e,B,y,w,v,x,A,j,r,h,n,o,q,k)=>if ltI g (J0 e.2.2.2.2)then(idx e.2.2.2.2 g).bind λF=>if eqI F.2.1 h then(idx e.2.2.2.2 g).bind λG=>(Jy 48 q [G]).bind λD=>some (.inl (C,z,J1 .i64 g 1,e,B,y,w,v,x,A,j,r,h,n,o,D,k))else(idx e.2.2.2.2 g).bind λE=>(Jy 48 k [E]).bind λH=>some (.inl (C,z,J1 .i64 g 1,e,B,y,w,v,x,A,j,r,h,n,o,q,H))else Option.map .inr (Jf (Jaa) (C,z,false,0,e,B,y,w,v,x,A,j,r,h,n,o,q,k))
def J9b(x1:J0l×Int×(List UInt8)):Option (J5Z):=(J2p (x1.1,x1.2.1)).bind λg=>if neI g 0 then some (([],0,[],false,[]),g)else if neI (J0 x1.2.2) 256 then some (([],0,[],false,[]),2)else if eqI x1.1.2.1 1099511627776 then some (([],0,[],false,[]),21)else(J7k x1.1).bind λe=>Jf (Jad) (x1.2.1,x1.2.2,0,x1.1,[],[],0,[],false,e.2.2.2.1,e.2.2.2.2,[],J1 .i64 e.1 1,e.2.1,e.2.2.1,[],[])
def J2q(x1:J00×Int×J09):Option (J00):=(J1g 424 x1.1.2.1).bind λe=>(inb (List.length e) x1.2.1).bind λ_=>(lat e (Int.toNat x1.2.1)).bind λ_=>some (x1.1.1,J0w e (Int.toNat x1.2.1) x1.2.2,x1.1.2.2)
def J9i(x1:JzH):Option (J7c):=(J0j x1.1).bind λk=>if Jq k then some ((0,[],0),15)else(J1K (x1.1,x1.2.1)).bind λg=>if ltI g 0 then some ((0,[],0),18)else(idx x1.1.2.1 g).bind λe=>if gtI x1.2.2 e.1.2.1 then some ((0,[],0),9)else if Jq e.2.1 then some (x1.1,0)else if eqI e.1.2.1 x1.2.2 then(J2q (x1.1,g,e.1,false,0,e.2.2.2)).bind λn=>some (n,0)else if leI e.2.2.1 x1.2.2 then(J2q (x1.1,g,e.1,e.2.1,J1 .i64 x1.2.2 1,e.2.2.2)).bind λj=>some (j,0)else(J2q (x1.1,g,e)).bind λh=>some (h,0)
def J3l(x1:Jdl):Option (J1R):=(JL x1.1).bind λk=>if Jq k then some ((0,0,(0,[],0),(0,[],0),([],[]),[],[],[]),15)else if ltI x1.2.1 0=false then if geI x1.2.1 x1.1.1=false then if ltI x1.2.2 0=false then(J3X x1.1.2.2.1).bind λj=>if gtI x1.2.2 j then some ((0,0,(0,[],0),(0,[],0),([],[]),[],[],[]),1)else(J1p (x1.1.2.2.2.1,x1.2.1)).bind λn=>if geI n 0 then(J9i (x1.1.2.2.2.1,x1.2)).bind λh=>if neI h.2 0 then some ((0,0,(0,[],0),(0,[],0),([],[]),[],[],[]),h.2)else(J1h (x1.1,0,7,0,0,0,x1.2.2,(x1.2.1,0,(false,[]),false,[]),[])).bind λg=>if neI g.2.2 0 then some ((0,0,(0,[],0),(0,[],0),([],[]),[],[],[]),g.2.2)else some ((g.1.1,g.1.2.1,g.1.2.2.1,h.1,g.1.2.2.2.2),0)else(J1h (x1.1,0,7,0,0,0,x1.2.2,(x1.2.1,0,(false,[]),false,[]),[])).bind λe=>if neI e.2.2 0 then some ((0,0,(0,[],0),(0,[],0),([],[]),[],[],[]),e.2.2)else some ((e.1.1,e.1.2.1,e.1.2.2.1,x1.1.2.2.2.1,e.1.2.2.2.2),0)else some ((0,0,(0,[],0),(0,[],0),([],[]),[],[],[]),1)else some ((0,0,(0,[],0),(0,[],0),([],[]),[],[],[]),1)else some ((0,0,(0,[],0),(0,[],0),([],[]),[],[],[]),1)
def J3t(x1:JKl):Option (J3z):=(J4G x1.2.2).bind λh=>(J9b (x1.1.2,x1.2.2.1,h.1)).bind λe=>if neI e.2 0 then some (((0,0,(0,[],0),(0,[],0),([],[]),[],[],[]),[],0,[],false,[]),e.2)else(J3l (x1.2.1,x1.2.2.1,x1.2.2.2.1)).bind λg=>if neI g.2 0 then some (((0,0,(0,[],0),(0,[],0),([],[]),[],[],[]),[],0,[],false,[]),g.2)else some ((g.1,e.1),0)
def J8Y(x1:J3z):Option (J3z):=(J4o (x1.1.1,x1.2)).bind λe=>if neI e.2.2 0 then some (((0,0,(0,[],0),(0,[],0),([],[]),[],[],[]),[],0,[],false,[]),e.2.2)else(J1p (x1.1.1.2.2.2.1,x1.2)).bind λg=>(idx x1.1.1.2.2.2.1.2.1 g).bind λh=>if Jq h.2.1 then some (x1.1,0)else(J3t (x1.1,e.1,e.2.1)).bind λj=>some j
def JiQ:JOG->Option ((JOG)⊕(List T_api_Grant)):=fun(e,k,h,g,j,n)=>if ltI g (J0 e)then(idx e g).bind λr=>if neI r.1 k=false then if h then(idx e g).bind λw=>if Jq (eqT J0a w.2.1 j)then(idx e g).bind λx=>(Jy 32 n [x]).bind λq=>some (.inl (e,k,h,J1 .i64 g 1,j,q))else some (.inl (e,k,h,J1 .i64 g 1,j,n))else some (.inl (e,k,h,J1 .i64 g 1,j,n))else(idx e g).bind λo=>(Jy 32 n [o]).bind λv=>some (.inl (e,k,h,J1 .i64 g 1,j,v))else some (.inr n)
def J58(x1:JOY):Option (List T_api_Grant):=Jf (JiQ) (x1.1,x1.2.1,x1.2.2.1,0,x1.2.2.2,[])
def Jj1:JbC->Option ((JbC)⊕Bool):=fun(e,g,h)=>if ltI g e then(idx h.2 g).bind λj=>(idx h.2 e).bind λn=>(J2d (j,n)).bind λk=>if k then some (.inr false)else some (.inl (e,J1 .i64 g 1,h))else some (.inr true)
def Jjg:JbC->Option ((JbC)⊕Bool):=fun(g,h,e)=>if ltI h (J0 e.1)then(idx e.1 h).bind λj=>(idx e.2 g).bind λk=>(J2d (j,k)).bind λn=>if n then some (.inr false)else some (.inl (g,J1 .i64 h 1,e))else Option.map .inr (Jf (Jj1) (g,0,e))
def J9T(x1:J9g):Option (Bool):=Jf (Jjg) (x1.2,0,x1.1)
def JhY:JLf->Option ((JLf)⊕(List T_api_Grant)):=fun(g,k,e,h,j)=>if ltI e (J0 g)then if Jq k then(idx g e).bind λI=>(J7I (I,h)).bind λM=>if Jq M then(Jy 32 j [h]).bind λn=>(idx g e).bind λK=>if neI K.1 h.1=false then(idx g e).bind λH=>if Jq (eqT J0a H.2.1 h.2.1)then(idx g e).bind λJ=>(Jy 32 n [J]).bind λL=>some (.inl (g,true,J1 .i64 e 1,h,L))else some (.inl (g,true,J1 .i64 e 1,h,n))else(idx g e).bind λo=>(Jy 32 n [o]).bind λG=>some (.inl (g,true,J1 .i64 e 1,h,G))else(idx g e).bind λE=>if neI E.1 h.1=false then(idx g e).bind λq=>if Jq (eqT J0a q.2.1 h.2.1)then(idx g e).bind λC=>(Jy 32 j [C]).bind λw=>some (.inl (g,k,J1 .i64 e 1,h,w))else some (.inl (g,k,J1 .i64 e 1,h,j))else(idx g e).bind λD=>(Jy 32 j [D]).bind λy=>some (.inl (g,k,J1 .i64 e 1,h,y))else(idx g e).bind λz=>if neI z.1 h.1=false then(idx g e).bind λB=>if Jq (eqT J0a B.2.1 h.2.1)then(idx g e).bind λA=>(Jy 32 j [A]).bind λr=>some (.inl (g,k,J1 .i64 e 1,h,r))else some (.inl (g,k,J1 .i64 e 1,h,j))else(idx g e).bind λF=>(Jy 32 j [F]).bind λx=>some (.inl (g,k,J1 .i64 e 1,h,x))else Option.map .inr (if Jq k then(Jy 32 j [h]).bind λv=>some v else some j)
def JaD(x1:JIo):Option (List T_api_Grant):=Jf (JhY) (x1.1,false,0,x1.2,[])
def Je7:Int×J01×J01->Option ((Int×J01×J01)⊕J01):=fun(g,e,h)=>if ltI g (J0 e.2)then(J9T (e,g)).bind λn=>if n then(idx e.2 g).bind λr=>(JaD (e.1,r)).bind λv=>(J0z e.2 none (some g)).bind λk=>(J1g 32 k).bind λj=>(J0z e.2 (some (J1 .i64 g 1)) none).bind λq=>(Jy 32 j q).bind λo=>some (.inl (J1 .i64 (-1) 1,(v,o),h))else some (.inl (J1 .i64 g 1,e,h))else some (.inr e)
def J35(x1:J01):Option (J01):=Jf (Je7) (0,x1,[],[])
def J3p(x1:J9g):Option (J01):=(J1n x1.1).bind λg=>if Jq g then some x1.1 else(J58 (x1.1.1,x1.2,false,0,0)).bind λe=>(J58 (x1.1.2,x1.2,false,0,0)).bind λh=>(J35 (e,h)).bind λj=>some j
def J1a(x1:J1R):Option (Ju×Int):=(JL x1.1).bind λg=>if Jq g then some ((0,0,0,0,[],[]),15)else(J0P (x1.1.2.2.2.2.2.1,x1.2)).bind λe=>if ltI e 0 then some ((0,0,0,0,[],[]),16)else(idx x1.1.2.2.2.2.2.1 e).bind λh=>if eqI h.2.1 1 then some ((0,0,0,0,[],[]),15)else(idx x1.1.2.2.2.2.2.1 e).bind λj=>some (j,0)
def J3n(x1:J1R):Option (Jpn):=(J1a x1).bind λe=>if neI e.2 0=false then if eqI (J0 e.1.2.2.2.2.1) 0=false then(idx e.1.2.2.2.2.1 (JG .i64 (J0 e.1.2.2.2.2.1) 1)).bind λh=>if leI h e.1.2.2.2.1 then some ((0,0,0,0,0,0,(0,0,(false,[]),false,[]),[]),false)else(idx e.1.2.2.2.2.1 (JG .i64 (J0 e.1.2.2.2.2.1) 1)).bind λj=>(J0M (x1.1.2.2.1,j)).bind λg=>some (g.1,eqI g.2 0)else some ((0,0,0,0,0,0,(0,0,(false,[]),false,[]),[]),false)else some ((0,0,0,0,0,0,(0,0,(false,[]),false,[]),[]),false)
def J3w(x1:JW×J1e):Option (J91):=(J1F x1.2).bind λe=>if Jq e then some ((0,0,Vector.replicate 16 (false,[])),22)else if neI x1.2.1 x1.1.1 then some ((0,0,Vector.replicate 16 (false,[])),6)else(inb 16 x1.2.2.1).bind λ_=>(vat x1.1.2.2 (Int.toNat x1.2.2.1)).bind λg=>if Jq (eqT JC g x1.2.2.2.1)then some ((0,0,Vector.replicate 16 (false,[])),20)else(inb 16 x1.2.2.1).bind λ_=>(vat x1.1.2.2 (Int.toNat x1.2.2.1)).bind λ_=>some ((x1.1.1,x1.1.2.1,JoO x1.1.2.2 (Int.toNat x1.2.2.1) x1.2.2.2.2),0)
def J77(x1:J1e):Option (J1e):=some (x1.1,x1.2.1,x1.2.2.2,x1.2.2.1)
def J7y(x1:JzI):Option (J01):=(J1n x1.1).bind λg=>if Jq g then some x1.1 else(J58 (x1.1.1,x1.2.1,true,x1.2.2)).bind λe=>(J35 (e,x1.1.2)).bind λh=>some h
def J8i(x1:Jzx):Option (J7c):=(J0j x1.1).bind λn=>if Jq n then some ((0,[],0),15)else(J2i x1.2).bind λh=>if neI h 0 then some ((0,[],0),h)else(J1K (x1.1,x1.2.1)).bind λe=>if ltI e 0 then some ((0,[],0),18)else(idx x1.1.2.1 e).bind λg=>if leI x1.2.2.1 g.1.2.1 then some ((0,[],0),8)else if Jq g.2.1 then(J2q (x1.1,e,x1.2,true,x1.2.2.1,true)).bind λk=>some (k,0)else(J2q (x1.1,e,x1.2,true,g.2.2.1,true)).bind λj=>some (j,0)
def J6Q(x1:Jw9):Option (J1R):=(J1h x1).bind λe=>if neI e.2.2 0 then some (x1.1,e.2.2)else(J2W (x1.1.2.2.2.1,x1.2.2.2.2.2.2.2.1.1)).bind λh=>(inb 16 x1.2.2.2.2.2.2.2.1.2.1).bind λ_=>(vat h.1.2.2 (Int.toNat x1.2.2.2.2.2.2.2.1.2.1)).bind λ_=>(J8i (x1.1.2.2.2.1,h.1.1,e.2.1,JoO h.1.2.2 (Int.toNat x1.2.2.2.2.2.2.2.1.2.1) x1.2.2.2.2.2.2.2.1.2.2.2)).bind λg=>if neI g.2 0 then some (x1.1,g.2)else some ((e.1.1,e.1.2.1,e.1.2.2.1,g.1,e.1.2.2.2.2),0)
def Jdf:TQ37->Option ((TQ37)⊕(Jpn)):=fun(e,j,h,g,k)=>if geI e 0 then(idx h.2.2.2.2.1 e).bind λo=>(J0M (j.2.2.1,o)).bind λn=>if eqI n.2 0 then if eqI n.1.2.2.2.2.2.2.1.1 g.1 then if eqI n.1.2.2.2.2.2.2.1.2.1 g.2 then some (.inr (n.1,true))else some (.inl (JG .i64 e 1,j,h,g,k))else some (.inl (JG .i64 e 1,j,h,g,k))else some (.inl (JG .i64 e 1,j,h,g,k))else some (.inr ((0,0,0,0,0,0,(0,0,(false,[]),false,[]),[]),false))
def J6p(x1:JOd):Option (Jpn):=Jf (Jdf) (JG .i64 x1.2.2.2 1,x1.1,x1.2.1,x1.2.2.1,0,0,0,0,0,0,(0,0,(false,[]),false,[]),[])
def J2N(x1:JvR):Option (Jpn):=(J1a (x1.1,x1.2.1)).bind λe=>if neI e.2 0=false then if neI e.1.2.1 3 then some ((0,0,0,0,0,0,(0,0,(false,[]),false,[]),[]),false)else(J6p (x1.1,e.1,x1.2.2,J0 e.1.2.2.2.2.1)).bind λg=>some g else some ((0,0,0,0,0,0,(0,0,(false,[]),false,[]),[]),false)
def J2h(x1:JH2):Option (J6v):=(J2W (x1.1.2.2.2.1,x1.2.2.2.2.2.2.2.2.1.1)).bind λh=>if Jq h.2 then some (x1.1,3,0,x1.2.2.2.2.2.2.2.2.1.1,(false,[]),0)else(J77 x1.2.2.2.2.2.2.2.2.1).bind λg=>(J3w (h.1,g)).bind λj=>if neI j.2 0 then(Jx j.2).bind λq=>some (x1.1,q)else(J6Q (x1.1,0,2,x1.2.1.1,0,0,x1.2.2.1,g,[])).bind λe=>if neI e.2 0 then(Jx e.2).bind λk=>some (x1.1,k)else if eqI x1.2.1.2.1 3 then(J2N (e.1,x1.2.1.1,g.1,g.2.1)).bind λo=>if Jq o.2 then(J7y (e.1.2.2.2.2.1,x1.2.1.1,g.1,g.2.1)).bind λn=>some ((e.1.1,e.1.2.1,e.1.2.2.1,e.1.2.2.2.1,n,e.1.2.2.2.2.2),1,x1.2.1.1,0,(false,[]),0)else some (e.1,1,x1.2.1.1,0,(false,[]),0)else some (e.1,1,x1.2.1.1,0,(false,[]),0)
def J1f(x1:J1R):Option (J6v):=(J1a x1).bind λg=>if neI g.2 0 then(Jx g.2).bind λq=>some (x1.1,q)else if eqI g.1.2.1 3 then if eqI (J0 g.1.2.2.2.2.1) 0 then(J1h (x1.1,0,5,x1.2,0,0,0,(0,0,(false,[]),false,[]),[])).bind λe=>if neI e.2.2 0 then(Jx e.2.2).bind λw=>some (x1.1,w)else(J3p (e.1.2.2.2.2.1,x1.2)).bind λo=>some ((e.1.1,e.1.2.1,e.1.2.2.1,e.1.2.2.2.1,o,e.1.2.2.2.2.2),1,0,0,(false,[]),0)else(J3n x1).bind λj=>if Jq j.2 then(Jx 14).bind λv=>some (x1.1,v)else(J2h (x1.1,g.1,j.1)).bind λr=>some r else(J3n x1).bind λh=>if Jq h.2 then(Jx 14).bind λn=>some (x1.1,n)else(J2h (x1.1,g.1,h.1)).bind λk=>some k
def J66(x1:J1R):Option (Ju×Bool):=(JL x1.1).bind λg=>if g then(J0P (x1.1.2.2.2.2.2.1,x1.2)).bind λe=>if geI e 0 then(idx x1.1.2.2.2.2.2.1 e).bind λh=>if eqI h.2.1 3 then(idx x1.1.2.2.2.2.2.1 e).bind λj=>some (j,true)else some ((0,0,0,0,[],[]),false)else some ((0,0,0,0,[],[]),false)else some ((0,0,0,0,[],[]),false)
def Jj8:Int×J9×(List Int)->Option ((Int×J9×(List Int))⊕(List Int)):=fun(g,e,h)=>if ltI g (J0 e.2.2.2.2.2.1)then(idx e.2.2.2.2.2.1 g).bind λk=>(J66 (e,k.1)).bind λn=>if n.2 then(idx e.2.2.2.2.2.1 g).bind λo=>(Jy 8 h [o.1]).bind λj=>some (.inl (J1 .i64 g 1,e,j))else some (.inl (J1 .i64 g 1,e,h))else some (.inr h)
def Jal(x1:J9):Option (List Int):=Jf (Jj8) (0,x1,[])
def JkE(z2:(List Int)×JI):Option (((List Int)×JI)⊕Bool):=if ltI z2.2.2 (J0 z2.1)then(idx z2.1 z2.2.2).bind λe=>if eqI e z2.2.1 then some (.inr true)else some (.inl (z2.1,z2.2.1,J1 .i64 z2.2.2 1))else some (.inr false)
def Jbw(x1:JbG):Option (Bool):=Jf (JkE) (x1.1,x1.2,0)
def Jaz(x1:J5Z):Option (J3S):=(J2p x1).bind λe=>if neI e 0 then some ([],e)else(Jbw (x1.1.2.2.1,x1.2)).bind λg=>if g then some ([],11)else(idx x1.1.1 x1.2).bind λh=>some (h,0)
def Jc7:(List UInt8)×Int×Int×Int×Int->Option (((List UInt8)×Int×Int×Int×Int)⊕JI):=fun(h,k,g,j,e)=>if ltI e g then(Jow h (J1 .i64 k e)).bind λn=>(JrM .u64 (cvI .u64 n) (cvI .u64 (J3f .i64 8 e))).bind λo=>some (.inl (h,k,g,orI .u64 j o,J1 .i64 e 1))else some (.inr (cvI .i64 j,0))
def J0x(x1:J0C):Option (JI):=if ltI x1.2.2 1=false then if gtI x1.2.2 8=false then if ltI x1.2.1 0 then some (0,1)else if gtI x1.2.1 (J0 x1.1)=false then if ltI (JG .i64 (J0 x1.1) x1.2.1) x1.2.2 then some (0,5)else Jf (Jc7) (x1.1,x1.2.1,x1.2.2,0,0)else some (0,5)else some (0,1)else some (0,1)
def J9f(x1:Unit):Option (List UInt8):=(J4p 256).bind λe=>some e
def Jem:JOD->Option ((JOD)⊕(J91)):=fun(h,e,j,g)=>if ltI e 16 then(Jow h (J1 .i64 12 (J3f .i64 e 13))).bind λk=>if eqI (cvI .i64 k) 255 then some (.inl (h,J1 .i64 e 1,j,g))else if gtI (cvI .i64 k) 12 then some (.inr ((0,0,Vector.replicate 16 (false,[])),4))else(J0z h (some (J1 .i64 (J1 .i64 12 (J3f .i64 e 13)) 1)) (some (J1 .i64 (J1 .i64 (J1 .i64 12 (J3f .i64 e 13)) 1) (cvI .i64 k)))).bind λo=>(inb 16 e).bind λ_=>(vat g.2.2 (Int.toNat e)).bind λ_=>some (.inl (h,J1 .i64 e 1,j,g.1,g.2.1,JoO g.2.2 (Int.toNat e) (true,o)))else Option.map .inr ((J4G g).bind λn=>if neI n.2 0=false then if neS n.1 h then some ((0,0,Vector.replicate 16 (false,[])),4)else some (g,0)else some ((0,0,Vector.replicate 16 (false,[])),4))
def J7W(x1:List UInt8):Option (J91):=if neI (J0 x1) 256 then some ((0,0,Vector.replicate 16 (false,[])),2)else(J9f ()).bind λj=>if eqS x1 j then some ((0,0,Vector.replicate 16 (false,[])),7)else(J0z x1 none (some 8)).bind λh=>(J0z x1 (some 248) none).bind λo=>if neS h o then some ((0,0,Vector.replicate 16 (false,[])),27)else(J0x (x1,244,4)).bind λq=>(J0z x1 none (some 244)).bind λg=>(J5W g).bind λe=>if neI (cvI .u32 q.1) e then some ((0,0,Vector.replicate 16 (false,[])),3)else(J0x (x1,0,8)).bind λn=>(J0x (x1,8,4)).bind λk=>Jf (Jem) (x1,0,(0,0,Vector.replicate 16 (false,[])),k.1,n.1,Vector.replicate 16 (false,[]))
def J8J(x1:Int):Option (JW):=some (x1,0,Vector.replicate 16 (false,[]))
def J33(x1:J3S):Option (J91):=if ltI x1.2 0=false then if geI x1.2 64 then some ((0,0,Vector.replicate 16 (false,[])),1)else(J7W x1.1).bind λe=>if eqI e.2 7 then(J8J x1.2).bind λg=>some (g,0)else if eqI e.2 0 then if neI e.1.1 x1.2 then some ((0,0,Vector.replicate 16 (false,[])),6)else some e else some e else some ((0,0,Vector.replicate 16 (false,[])),1)
def J4g(x1:JOz):Option (J91):=(J1D x1.1).bind λh=>if Jq h then some ((0,0,Vector.replicate 16 (false,[])),28)else if ltI x1.2.1 0=false then if geI x1.2.1 (J0 x1.1)=false then if ltI x1.2.2.1 0 then some ((0,0,Vector.replicate 16 (false,[])),1)else(J33 (x1.2.2.2,x1.2.1)).bind λe=>if neI e.2 0 then some ((0,0,Vector.replicate 16 (false,[])),e.2)else if gtI e.1.2.1 x1.2.2.1 then(idx x1.1 x1.2.1).bind λj=>if gtI e.1.2.1 j.1 then some ((0,0,Vector.replicate 16 (false,[])),9)else(idx x1.1 x1.2.1).bind λk=>if ltI e.1.2.1 k.1 then some ((0,0,Vector.replicate 16 (false,[])),8)else some (e.1,0)else(idx x1.1 x1.2.1).bind λg=>if ltI e.1.2.1 g.1 then some ((0,0,Vector.replicate 16 (false,[])),8)else some (e.1,0)else some ((0,0,Vector.replicate 16 (false,[])),1)else some ((0,0,Vector.replicate 16 (false,[])),1)
def J5S(x1:Jzx):Option (Int×Int×Int×(List J09)):=(J0j x1.1).bind λh=>if Jq h then some (0,0,15,[])else(J2i x1.2).bind λe=>if neI e 0 then some (0,0,e,[])else(J1K (x1.1,x1.2.1)).bind λj=>if geI j 0 then some (0,0,25,[])else if eqI (J0 x1.1.2.1) x1.1.1 then some (0,0,21,[])else(J1g 424 x1.1.2.1).bind λk=>(Jy 424 k [(x1.2,false,0,true)]).bind λg=>some (x1.1.1,x1.1.2.2,0,g)
def J9s:JOR->Option ((JOR)⊕(J1R)):=fun(g,e,h,q,n,k,j,r,o)=>if ltI g (J0 e.2.2.2.2.2.2.2)then(idx e.2.2.2.2.2.2.2 g).bind λw=>if neI w.1 h.1 then(idx e.2.2.2.2.2.2.2 g).bind λx=>(Jy 24 o [x]).bind λv=>some (.inl (J1 .i64 g 1,e,h,q,n,k,j,r,v))else some (.inl (J1 .i64 g 1,e,h,q,n,k,j,r,o))else some (.inr ((e.1,e.2.1,(e.2.2.1.1,e.2.2.1.2.1,e.2.2.1.2.2),(k,n,j),(e.2.2.2.2.1.1,e.2.2.2.2.1.2),e.2.2.2.2.2.1,e.2.2.2.2.2.2.1,o),0))
def J3K(x1:JJO):Option (J1R):=(JL x1.1).bind λn=>if Jq n then some ((0,0,(0,[],0),(0,[],0),([],[]),[],[],[]),15)else if ltI x1.2.1 0=false then if geI x1.2.1 x1.1.1 then some ((0,0,(0,[],0),(0,[],0),([],[]),[],[],[]),1)else(J3Y (x1.1,x1.2.1)).bind λk=>if ltI x1.2.2.1 k then some ((0,0,(0,[],0),(0,[],0),([],[]),[],[],[]),8)else(J3Y (x1.1,x1.2.1)).bind λo=>if gtI x1.2.2.1 o then some ((0,0,(0,[],0),(0,[],0),([],[]),[],[],[]),9)else(J5S (x1.1.2.2.2.1,x1.2)).bind λe=>if neI e.2.2.1 0 then some ((0,0,(0,[],0),(0,[],0),([],[]),[],[],[]),e.2.2.1)else(J4k (x1.1,x1.2.1)).bind λj=>if j.2 then(inb (List.length e.2.2.2) (JG .i64 (J0 e.2.2.2) 1)).bind λ_=>(lat e.2.2.2 (Int.toNat (JG .i64 (J0 e.2.2.2) 1))).bind λg=>(inb (List.length (J0w e.2.2.2 (Int.toNat (JG .i64 (J0 e.2.2.2) 1)) (g.1,true,g.2.2))) (JG .i64 (J0 (J0w e.2.2.2 (Int.toNat (JG .i64 (J0 e.2.2.2) 1)) (g.1,true,g.2.2))) 1)).bind λ_=>(lat (J0w e.2.2.2 (Int.toNat (JG .i64 (J0 e.2.2.2) 1)) (g.1,true,g.2.2)) (Int.toNat (JG .i64 (J0 (J0w e.2.2.2 (Int.toNat (JG .i64 (J0 e.2.2.2) 1)) (g.1,true,g.2.2))) 1))).bind λh=>Jf (J9s) (0,x1.1,x1.2,(0,0,(0,[],0),(0,[],0),([],[]),[],[],[]),J0w (J0w e.2.2.2 (Int.toNat (JG .i64 (J0 e.2.2.2) 1)) (g.1,true,g.2.2)) (Int.toNat (JG .i64 (J0 (J0w e.2.2.2 (Int.toNat (JG .i64 (J0 e.2.2.2) 1)) (g.1,true,g.2.2))) 1)) (h.1,h.2.1,j.1.2.1,h.2.2.2),e.1,e.2.1,j.1,[])else some ((x1.1.1,x1.1.2.1,x1.1.2.2.1,(e.1,e.2.2.2,e.2.1),x1.1.2.2.2.2),0)else some ((0,0,(0,[],0),(0,[],0),([],[]),[],[],[]),1)
def J4f(x1:JLw):Option (J91):=(J02 x1.2).bind λj=>if Jq j=false then(JN x1.2).bind λh=>if Jq h then some ((0,0,Vector.replicate 16 (false,[])),12)else(J2i x1.1).bind λg=>if neI g 0 then some ((0,0,Vector.replicate 16 (false,[])),g)else if neI x1.2.2.2.2.2.2.2.1.1 x1.1.1 then some ((0,0,Vector.replicate 16 (false,[])),6)else if neI x1.2.2.2.2.2.1 x1.1.2.1 then some ((0,0,Vector.replicate 16 (false,[])),13)else(J3w (x1.1,x1.2.2.2.2.2.2.2.1)).bind λe=>if neI e.2 0 then some ((0,0,Vector.replicate 16 (false,[])),e.2)else some ((e.1.1,x1.2.1,e.1.2.2),0)else some ((0,0,Vector.replicate 16 (false,[])),12)
def Jcd(x1:T_api_Entry×(List T_api_Entry)):Option (List T_api_Entry):=(Jy 128 [x1.1] x1.2).bind λe=>some e
def Jif:JNA->Option ((JNA)⊕(Jvl)):=fun(k,e,j,g,h)=>if gtI g e then(J0M (h,g)).bind λn=>if neI n.2 0 then some (.inr ([],14))else(JN n.1).bind λq=>if Jq q=false then if neI n.1.2.2.2.2.2.2.1.1 k then some (.inr ([],13))else(Jcd (n.1,j)).bind λo=>some (.inl (k,e,o,n.1.2.2.2.2.1,h))else some (.inr ([],13))else Option.map .inr (if ltI g e then some ([],13)else some (j,0))
def Jab(x1:J07×T_api_Row):Option (Jvl):=(J0i x1.1).bind λe=>if Jq e then some ([],26)else if ltI x1.2.1 0=false then if geI x1.2.1 64=false then if ltI x1.2.2.1 0=false then if ltI x1.2.2.2 0 then some ([],1)else Jf (Jif) (x1.2.1,x1.2.2.2,[],x1.2.2.1,x1.1)else some ([],1)else some ([],1)else some ([],1)
def J90(x1:Jrt):Option (Jvl):=(J0i x1.1).bind λg=>if Jq g then some ([],26)else(J2i x1.2.1).bind λe=>if neI e 0 then some ([],e)else if ltI x1.2.2 0 then some ([],1)else if geI x1.2.1.2.1 x1.2.2 then some ([],0)else(Jab (x1.1,x1.2.1.1,x1.2.2,x1.2.1.2.1)).bind λh=>some h
def Jbm:JNP->Option ((JNP)⊕(JH1)):=fun(e,g,k,h,j)=>if ltI g (J0 e)then(idx e g).bind λo=>(J4f (h,o)).bind λn=>if neI n.2 0 then some (.inr ((0,0,Vector.replicate 16 (false,[])),0,n.2))else some (.inl (e,J1 .i64 g 1,k,n.1,j))else some (.inr (h,J0 e,0))
def J56(x1:Jrt):Option (JH1):=(J90 x1).bind λe=>if neI e.2 0 then some ((0,0,Vector.replicate 16 (false,[])),0,e.2)else Jf (Jbm) (e.1,0,x1.1,x1.2.1,0,0,Vector.replicate 16 (false,[]))
def J4Z(x1:Jrt):Option (J91):=(J56 x1).bind λe=>some (e.1,e.2.2)
def Jaj(x1:J7c):Option (J7c):=(J0j x1.1).bind λk=>if Jq k then some ((0,[],0),15)else(J1K x1).bind λg=>if ltI g 0 then some ((0,[],0),18)else(idx x1.1.2.1 g).bind λn=>if n.2.1 then some ((0,[],0),23)else(J0z x1.1.2.1 none (some g)).bind λo=>(J1g 424 o).bind λj=>(J0z x1.1.2.1 (some (J1 .i64 g 1)) none).bind λh=>(Jy 424 j h).bind λe=>if ltI g x1.1.2.2 then if geI (JG .i64 x1.1.2.2 1) (J0 e)then some ((x1.1.1,e,0),0)else some ((x1.1.1,e,JG .i64 x1.1.2.2 1),0)else if geI x1.1.2.2 (J0 e)then some ((x1.1.1,e,0),0)else some ((x1.1.1,e,x1.1.2.2),0)
def Jeu(z3:J00×J00):Option ((J00×J00)⊕(JzH)):=(idx z3.1.2.1 z3.1.2.2).bind λj=>if j.2.2.2 then(idx z3.1.2.1 z3.1.2.2).bind λg=>(J2q (z3.1,z3.1.2.2,g.1,g.2.1,g.2.2.1,false)).bind λe=>(JnN (J1 .i64 e.2.2 1) (J0 e.2.1)).bind λh=>some (.inl ((e.1,e.2.1,h),z3.2))else Option.map .inr ((idx z3.1.2.1 z3.1.2.2).bind λk=>some (z3.1,k.1.1,0))
def J8d(x1:J00):Option (JzH):=(J0j x1).bind λe=>if Jq e then some ((0,[],0),0,15)else if eqI (J0 x1.2.1) 0 then some ((0,[],0),0,18)else Jf (Jeu) (x1,0,[],0)
def J4U(x1:J9):Option (J9×JW×Bool×Int):=(JL x1).bind λk=>if Jq k then some ((0,0,(0,[],0),(0,[],0),([],[]),[],[],[]),(0,0,Vector.replicate 16 (false,[])),false,15)else if ltI (J0 x1.2.2.2.1.2.1) x1.2.2.2.1.1 then some (x1,(0,0,Vector.replicate 16 (false,[])),false,0)else(J8d x1.2.2.2.1).bind λe=>(J1p (e.1,e.2.1)).bind λn=>(idx e.1.2.1 n).bind λg=>if Jq g.2.1 then(Jaj (e.1,e.2.1)).bind λj=>some ((x1.1,x1.2.1,x1.2.2.1,j.1,x1.2.2.2.2),(0,0,Vector.replicate 16 (false,[])),false,0)else(J2E ((x1.1,x1.2.1,x1.2.2.1,e.1,x1.2.2.2.2),g.1.2.1)).bind λh=>some (h,g.1,true,0)
def Jbk(z2:Jw×Jw):Option ((Jw×Jw)⊕(J3z)):=(J4U z2.1.1).bind λe=>if neI e.2.2.2 0 then some (.inr (((0,0,(0,[],0),(0,[],0),([],[]),[],[],[]),[],0,[],false,[]),e.2.2.2))else if Jq e.2.2.1 then some (.inr ((e.1,z2.1.2),0))else(J3t (z2.1,e.1,e.2.1)).bind λg=>if neI g.2 0 then some (.inr (((0,0,(0,[],0),(0,[],0),([],[]),[],[],[]),[],0,[],false,[]),g.2))else some (.inl (g.1,z2.2))
def J4X(x1:Jw):Option (J3z):=Jf (Jbk) (x1,(0,0,(0,[],0),(0,[],0),([],[]),[],[],[]),[],0,[],false,[])
def J2k(x1:J3z):Option (J3z):=(JL x1.1.1).bind λq=>if Jq q then some (((0,0,(0,[],0),(0,[],0),([],[]),[],[],[]),[],0,[],false,[]),15)else if ltI x1.2 0=false then if geI x1.2 x1.1.1.1 then some (((0,0,(0,[],0),(0,[],0),([],[]),[],[],[]),[],0,[],false,[]),1)else(J1p (x1.1.1.2.2.2.1,x1.2)).bind λo=>if geI o 0 then some (x1.1,0)else(J4X x1.1).bind λe=>if neI e.2 0 then some (((0,0,(0,[],0),(0,[],0),([],[]),[],[],[]),[],0,[],false,[]),e.2)else(Jaz (e.1.2,x1.2)).bind λk=>if neI k.2 0 then some (((0,0,(0,[],0),(0,[],0),([],[]),[],[],[]),[],0,[],false,[]),k.2)else(J3Y (e.1.1,x1.2)).bind λn=>(J4g (e.1.1.2.2.2.2.2.2.1,x1.2,n,k.1)).bind λg=>if neI g.2 0 then some (((0,0,(0,[],0),(0,[],0),([],[]),[],[],[]),[],0,[],false,[]),g.2)else(J4Z (e.1.1.2.2.1,g.1,n)).bind λj=>if neI j.2 0 then some (((0,0,(0,[],0),(0,[],0),([],[]),[],[],[]),[],0,[],false,[]),j.2)else(J3K (e.1.1,j.1)).bind λh=>if neI h.2 0 then some (((0,0,(0,[],0),(0,[],0),([],[]),[],[],[]),[],0,[],false,[]),h.2)else some ((h.1,e.1.2),0)else some (((0,0,(0,[],0),(0,[],0),([],[]),[],[],[]),[],0,[],false,[]),1)
def Jhh:JNK->Option ((JNK)⊕(Jw×Bool×Int)):=fun(g,e,k)=>(idx g 0).bind λn=>(J1f (e.1,n)).bind λh=>if eqI h.2.1 5 then some (.inr (((0,0,(0,[],0),(0,[],0),([],[]),[],[],[]),[],0,[],false,[]),false,h.2.2.2.2.2))else if neI h.2.1 3 then some (.inr ((h.1,e.2),true,0))else(J2k (e,h.2.2.2.1)).bind λj=>if neI j.2 0 then some (.inr (((0,0,(0,[],0),(0,[],0),([],[]),[],[],[]),[],0,[],false,[]),false,j.2))else some (.inl (g,j.1,k))
def Jas(x1:Jw):Option (Jw×Bool×Int):=(JL x1.1).bind λj=>if Jq j then some (((0,0,(0,[],0),(0,[],0),([],[]),[],[],[]),[],0,[],false,[]),false,15)else if gtI (J0 x1.1.2.2.2.2.2.2.2) 0 then(idx x1.1.2.2.2.2.2.2.2 0).bind λh=>(J2k (x1,h.1)).bind λe=>some (e.1,eqI e.2 0,e.2)else(Jal x1.1).bind λg=>if eqI (J0 g) 0 then some (x1,false,0)else Jf (Jhh) (g,x1,(0,0,(0,[],0),(0,[],0),([],[]),[],[],[]),[],0,[],false,[])
def J2L(x1:Int):Option (J0L):=if neI x1 0 then(Jx x1).bind λe=>some e else some (1,0,0,(false,[]),0)
def JcC:JGN->Option ((JGN)⊕(T_api_Grant×Bool)):=fun(h,e,g,j)=>if ltI e (J0 g.2)then(idx g.2 e).bind λk=>if eqI k.1 h then(idx g.2 e).bind λn=>some (.inr (n,true))else some (.inl (h,J1 .i64 e 1,g,j))else some (.inr ((0,(0,0),0),false))
def J3o(x1:J9g):Option (T_api_Grant×Bool):=(J1n x1.1).bind λe=>if e then Jf (JcC) (x1.2,0,x1.1,0,(0,0),0)else some ((0,(0,0),0),false)
def Juj:JIh->Option ((JIh)⊕(List Int)):=fun(e,h,k,g,j)=>if ltI g (J0 e)then if Jq k then(idx e g).bind λz=>if geI z h then(Jy 8 j [h]).bind λw=>(idx e g).bind λC=>if neI C h then(idx e g).bind λy=>(Jy 8 w [y]).bind λx=>some (.inl (e,h,true,J1 .i64 g 1,x))else some (.inl (e,h,true,J1 .i64 g 1,w))else(idx e g).bind λB=>if neI B h then(idx e g).bind λA=>(Jy 8 j [A]).bind λn=>some (.inl (e,h,k,J1 .i64 g 1,n))else some (.inl (e,h,k,J1 .i64 g 1,j))else(idx e g).bind λr=>if neI r h then(idx e g).bind λq=>(Jy 8 j [q]).bind λv=>some (.inl (e,h,k,J1 .i64 g 1,v))else some (.inl (e,h,k,J1 .i64 g 1,j))else Option.map .inr (if Jq k then(Jy 8 j [h]).bind λo=>some o else some j)
def J6a(x1:JbG):Option (List Int):=Jf (Juj) (x1.1,x1.2,false,0,[])
def JlK:JHb->Option ((JHb)⊕(List Int)):=fun(k,h,g,e,j)=>if ltI g (J0 e.2)then(idx e.2 g).bind λv=>if neI v.1 k then(idx e.2 g).bind λn=>(J2d (n,j)).bind λo=>if o then(idx e.2 g).bind λr=>(J6a (h,r.1)).bind λq=>some (.inl (k,q,J1 .i64 g 1,e,j))else some (.inl (k,h,J1 .i64 g 1,e,j))else some (.inr h)else some (.inr h)
def Jku:JHb->Option ((JHb)⊕(List Int)):=fun(k,j,g,e,h)=>if ltI g (J0 e.1)then(idx e.1 g).bind λq=>(J2d (q,h)).bind λr=>if r then(idx e.1 g).bind λo=>(J6a (j,o.1)).bind λn=>some (.inl (k,n,J1 .i64 g 1,e,h))else some (.inl (k,j,J1 .i64 g 1,e,h))else Option.map .inr (Jf (JlK) (k,j,0,e,h))
def J6P(x1:J9g):Option (List Int):=(J3o x1).bind λe=>if Jq e.2 then some []else Jf (Jku) (x1.2,[],0,x1.1,e.1)
def JcA:JOn->Option ((JOn)⊕(Int×JI×Bool)):=fun(g,j,e,h,n,k)=>if ltI e j then(idx g e).bind λo=>(J66 (h,o)).bind λq=>if q.2 then some (.inr (o,k.2.1,true))else some (.inl (g,j,J1 .i64 e 1,h,n,k))else some (.inr (0,(0,0),false))
def J7a(x1:J1R):Option (Int×JI×Bool):=(J3o (x1.1.2.2.2.2.1,x1.2)).bind λg=>if Jq g.2 then some (0,(0,0),false)else(J6P (x1.1.2.2.2.2.1,x1.2)).bind λe=>Jf (JcA) (e,J0 e,0,x1.1,(0,0),g.1)
def Jgi:Int×J01×T_api_Grant->Option ((Int×J01×T_api_Grant)⊕Int):=fun(g,e,h)=>if ltI g (J0 e.2)then(idx e.2 g).bind λj=>if eqT J0a j.2.1 h.2.1 then(J2X (e,j.1,j.2.1)).bind λk=>if eqI k 0 then some (.inr g)else some (.inl (J1 .i64 g 1,e,h))else some (.inl (J1 .i64 g 1,e,h))else some (.inr (J0 e.2))
def J6J(x1:JHe):Option (Int):=(J2X (x1.1,x1.2.1,x1.2.2.1)).bind λe=>if eqI e 0 then some (J0 x1.1.2)else Jf (Jgi) (0,x1)
def J74(x1:JHe):Option (J01×Bool×Int):=(J1n x1.1).bind λG=>if Jq G then some (([],[]),false,17)else(J5m x1.2).bind λC=>if Jq C then some (([],[]),false,1)else(J3o (x1.1,x1.2.1)).bind λe=>if e.2 then if Jq (eqT J8 e.1 x1.2)then some (([],[]),false,15)else if e.2 then some (x1.1,false,0)else(J2X (x1.1,x1.2.1,x1.2.2.1)).bind λE=>if geI E x1.2.2.2 then some (x1.1,true,0)else if eqI (J1 .i64 (J0 x1.1.1) (J0 x1.1.2)) 1024 then some (([],[]),false,21)else(J6J x1).bind λv=>(J0z x1.1.2 none (some v)).bind λB=>(J1g 32 B).bind λD=>(Jy 32 D [x1.2]).bind λF=>(J0z x1.1.2 (some v) none).bind λk=>(Jy 32 F k).bind λA=>(J35 (x1.1.1,A)).bind λj=>(J2X (j,x1.2.1,x1.2.2.1)).bind λn=>some (j,geI n x1.2.2.2,0)else if e.2 then some (x1.1,false,0)else(J2X (x1.1,x1.2.1,x1.2.2.1)).bind λx=>if geI x x1.2.2.2 then some (x1.1,true,0)else if eqI (J1 .i64 (J0 x1.1.1) (J0 x1.1.2)) 1024 then some (([],[]),false,21)else(J6J x1).bind λh=>(J0z x1.1.2 none (some h)).bind λy=>(J1g 32 y).bind λo=>(Jy 32 o [x1.2]).bind λq=>(J0z x1.1.2 (some h) none).bind λw=>(Jy 32 q w).bind λr=>(J35 (x1.1.1,r)).bind λg=>(J2X (g,x1.2.1,x1.2.2.1)).bind λz=>some (g,geI z x1.2.2.2,0)
def Jcq:(List Int)×Int×J01->Option (((List Int)×Int×J01)⊕(List Int)):=fun(h,e,g)=>if ltI e (J0 g.2)then(idx g.2 e).bind λj=>(J6a (h,j.1)).bind λk=>some (.inl (k,J1 .i64 e 1,g))else some (.inr h)
def J7f(x1:J01):Option (List Int):=(J1n x1).bind λe=>if e then Jf (Jcq) ([],0,x1)else some []
def JdG:JNr->Option ((JNr)⊕(List Int)):=fun(e,j,h,g,k)=>if ltI g h then(idx j g).bind λo=>(idx e 0).bind λn=>if eqI o n then some (.inr e)else some (.inl (e,j,h,J1 .i64 g 1,k))else some (.inr [])
def JdC(y:(JAU)->Option (List Int)):JKQ->Option ((JKQ)⊕((JHj)⊕(List Int))):=fun(g,h,j,w,k,q,n,r,v,o,e)=>if ltI o v then(idx r o).bind λz=>if w=false then some (.inl (g,h,j,eqI j z,k,q,n,r,v,J1 .i64 o 1,e))else some (.inl (g,h,j,true,k,q,n,r,v,J1 .i64 o 1,e))else Option.map .inr (if w then some (.inl (g,h,k,q,J1 .i64 n 1,e))else(J1g 8 g).bind λB=>(Jy 8 B [j]).bind λA=>(y (e,A,h)).bind λx=>if gtI (J0 x) 0 then some (.inr x)else some (.inl (g,h,k,q,J1 .i64 n 1,e)))
def Jew(o:(JAU)->Option (List Int)):JHj->Option ((JHj)⊕(List Int)):=fun(g,k,j,h,e,n)=>if ltI e h then(idx j e).bind λq=>Jf (JdC o) (g,k,q,false,j,h,e,g,J0 g,0,n)else some (.inr [])
def J4M(g:(JAU)->Option (List Int))(x1:JAU):Option (List Int):=(idx x1.2.1 (JG .i64 (J0 x1.2.1) 1)).bind λh=>(J6P (x1.1,h)).bind λe=>if eqI (J0 x1.2.1) x1.2.2 then Jf (JdG) (x1.2.1,e,J0 e,0,x1.1)else Jf (Jew g) (x1.2.1,x1.2.2,e,J0 e,0,x1.1)
def Ji5:(JAU)->Option (List Int):=JgA J4M 1100
def JeO:JbC->Option ((JbC)⊕(List Int)):=fun(h,g,e)=>(J7f e).bind λk=>if leI g (J0 k)then(Ji5 (e,[h],g)).bind λj=>if gtI (J0 j) 0 then some (.inr j)else some (.inl (h,J1 .i64 g 1,e))else some (.inr [])
def J97(x1:J9g):Option (List Int):=Jf (JeO) (x1.2,1,x1.1)
def J38(x1:J2t):Option (JI):=(J0Z x1.1).bind λg=>if Jq g then some (0,15)else(J1q x1).bind λe=>if ltI e 0 then some (0,16)else(idx x1.1 e).bind λh=>if neI h.2.1 1 then some (0,15)else some (e,0)
def J7H(x1:JvN):Option (J2t):=(J38 (x1.1,x1.2.1)).bind λg=>if neI g.2 0 then some ([],g.2)else(idx x1.1 g.1).bind λe=>if ltI x1.2.2 0=false then if geI x1.2.2 (J0 e.2.2.2.2.2)then some ([],19)else(J0z e.2.2.2.2.2 none (some (J1 .i64 x1.2.2 1))).bind λn=>(J1g 8 n).bind λh=>(inb (List.length h) x1.2.2).bind λ_=>(lat h (Int.toNat x1.2.2)).bind λj=>(J2n (e.1,2,e.2.2.1,j,e.2.2.2.2.1,h)).bind λo=>(J2T (x1.1,g.1,o)).bind λk=>some (k,0)else some ([],19)
def J7B(x1:J2t):Option (J2t):=(J38 x1).bind λg=>if neI g.2 0 then some ([],g.2)else(idx x1.1 g.1).bind λe=>if eqI (J0 e.2.2.2.2.2) 8 then some ([],21)else(J1g 8 e.2.2.2.2.2).bind λj=>(Jy 8 j [e.2.2.1]).bind λk=>(J2T (x1.1,g.1,e.1,e.2.1,e.2.2.1,e.2.2.2.1,e.2.2.2.2.1,k)).bind λh=>some (h,0)
def J8W(x1:List Int):Option (Int):=if eqI (J0 x1) 0 then some 0 else(idx x1 0).bind λe=>some e
def JbJ(x1:J1R):Option (Int):=(J6P (x1.1.2.2.2.2.1,x1.2)).bind λg=>(J8W g).bind λe=>some e
def Jby(x1:J7c):Option (J00):=(J1p x1).bind λg=>if ltI g 0 then some x1.1 else(idx x1.1.2.1 g).bind λe=>(J2q (x1.1,g,e.1,e.2.1,e.2.2.1,true)).bind λh=>some h
def J3G(x1:JdQ):Option (J6v):=(J2W (x1.1.2.2.2.1,x1.2.2.2.1)).bind λg=>if Jq g.2 then some (x1.1,3,0,x1.2.2.2.1,(false,[]),0)else if eqI x1.2.2.1 1 then(Jby (x1.1.2.2.2.1,x1.2.2.2.1)).bind λn=>(inb 16 x1.2.2.2.2.1).bind λ_=>(vat g.1.2.2 (Int.toNat x1.2.2.2.2.1)).bind λq=>some ((x1.1.1,x1.1.2.1,x1.1.2.2.1,n,x1.1.2.2.2.2),1,0,0,q,0)else(inb 16 x1.2.2.2.2.1).bind λ_=>(vat g.1.2.2 (Int.toNat x1.2.2.2.2.1)).bind λj=>if eqI x1.2.2.1 2 then(J6Q (x1.1,0,1,x1.2.1,0,0,0,(x1.2.2.2.1,x1.2.2.2.2.1,j,true,x1.2.2.2.2.2),[])).bind λh=>if neI h.2 0 then(Jx h.2).bind λo=>some (x1.1,o)else some (h.1,1,0,0,(false,[]),0)else(J6Q (x1.1,0,1,x1.2.1,0,0,0,(x1.2.2.2.1,x1.2.2.2.2.1,j,false,[]),[])).bind λe=>if neI e.2 0 then(Jx e.2).bind λk=>some (x1.1,k)else some (e.1,1,0,0,(false,[]),0)
def J3P(x1:J1R):Option (J6v):=(J0P (x1.1.2.2.2.2.2.1,x1.2)).bind λk=>(idx x1.1.2.2.2.2.2.1 k).bind λj=>if eqI j.2.2.1 0 then(J4L (x1.1.2.2.2.2.2.1,x1.2)).bind λo=>(J3p (x1.1.2.2.2.2.1,x1.2)).bind λq=>some ((x1.1.1,x1.1.2.1,x1.1.2.2.1,x1.1.2.2.2.1,q,o,x1.1.2.2.2.2.2.2),1,0,0,(false,[]),0)else(J1h (x1.1,0,3,x1.2,0,0,0,(0,0,(false,[]),false,[]),[])).bind λg=>if neI g.2.2 0 then(Jx g.2.2).bind λh=>some (x1.1,h)else(J2E (g.1,g.2.1)).bind λe=>(J3p (e.2.2.2.2.1,x1.2)).bind λn=>some ((e.1,e.2.1,e.2.2.1,e.2.2.2.1,n,e.2.2.2.2.2),1,0,0,(false,[]),0)
def J8e(x1:J9g):Option (J01):=(J1n x1.1).bind λg=>if Jq g then some x1.1 else(J58 (x1.1.2,x1.2,false,0,0)).bind λe=>(J35 (x1.1.1,e)).bind λh=>some h
def Jcx:JOc->Option ((JOc)⊕Bool):=fun(e,j,g,h)=>if ltI e (J0 h.2.2.2.2.1)then(idx h.2.2.2.2.1 e).bind λn=>(J0M (j.2.2.1,n)).bind λk=>if eqI k.2 0 then if eqI k.1.2.2.2.2.2.2.1.1 g.1 then if eqI k.1.2.2.2.2.2.2.1.2.1 g.2 then some (.inr true)else some (.inl (J1 .i64 e 1,j,g,h))else some (.inl (J1 .i64 e 1,j,g,h))else some (.inl (J1 .i64 e 1,j,g,h))else some (.inr false)
def J78(x1:JvR):Option (Bool):=(J0P (x1.1.2.2.2.2.2.1,x1.2.1)).bind λg=>(idx x1.1.2.2.2.2.2.1 g).bind λe=>Jf (Jcx) (0,x1.1,x1.2.2,e)
def JaI:JNM->Option ((JNM)⊕(J6v)):=fun(j,k,h,g,n,q,o,e)=>if ltI g (J0 h)then(idx h g).bind λr=>if eqI r.1 j then(idx h g).bind λx=>(J78 (e,j,x.2.1)).bind λw=>if Jq w then(idx h g).bind λy=>(J7y (e.2.2.2.2.1,j,y.2.1)).bind λv=>some (.inl (j,k,h,J1 .i64 g 1,n,q,o,e.1,e.2.1,e.2.2.1,e.2.2.2.1,v,e.2.2.2.2.2))else some (.inl (j,k,h,J1 .i64 g 1,n,q,o,e))else some (.inl (j,k,h,J1 .i64 g 1,n,q,o,e))else some (.inr (e,k,0,0,(false,[]),0))
def J3x(x1:Jdl):Option (J6v):=(J8e (x1.1.2.2.2.2.1,x1.2.1)).bind λg=>(J0P (x1.1.2.2.2.2.2.1,x1.2.1)).bind λj=>(idx x1.1.2.2.2.2.2.1 j).bind λn=>if eqI n.2.2.1 0 then(J4L (x1.1.2.2.2.2.2.1,x1.2.1)).bind λo=>(J3p (g,x1.2.1)).bind λh=>some ((x1.1.1,x1.1.2.1,x1.1.2.2.1,x1.1.2.2.2.1,h,o,x1.1.2.2.2.2.2.2),x1.2.2,0,0,(false,[]),0)else(J1h ((x1.1.1,x1.1.2.1,x1.1.2.2.1,x1.1.2.2.2.1,g,x1.1.2.2.2.2.2),0,4,x1.2.1,0,0,0,(0,0,(false,[]),false,[]),[])).bind λe=>if neI e.2.2 0 then(Jx e.2.2).bind λk=>some (x1.1,k)else Jf (JaI) (x1.2.1,x1.2.2,e.1.2.2.2.2.1.1,0,x1.1,(0,0,(0,[],0),(0,[],0),([],[]),[],[],[]),(0,0,0,(false,[]),0),e.1)
def J7o(x1:Int×J3j):Option (T_api_Grant×Bool):=if eqI x1.2.1 1 then some ((x1.1,(x1.2.2.1,x1.2.2.2.1),1),true)else if eqI x1.2.1 2 then some ((x1.1,(x1.2.2.1,x1.2.2.2.1),2),true)else if eqI x1.2.1 3 then some ((x1.1,(x1.2.2.1,x1.2.2.2.1),2),true)else some ((0,(0,0),0),false)
def J4K(x1:J9×J3j):Option (Int):=if eqI x1.2.1 1 then if ltI x1.2.2.1 0=false then if geI x1.2.2.1 x1.1.1=false then if ltI x1.2.2.2.1 0=false then if geI x1.2.2.2.1 16 then some 1 else if eqI x1.2.1 2 then if Jq (eqT J0o x1.2 x1.2)then some 1 else if gtI (J0 x1.2.2.2.2) 12 then some 22 else some 0 else if Jq (eqT J0o x1.2 (x1.2.1,x1.2.2.1,x1.2.2.2.1,[]))then some 1 else if gtI (J0 x1.2.2.2.2) 12 then some 22 else some 0 else some 1 else some 1 else some 1 else if eqI x1.2.1 2 then if ltI x1.2.2.1 0=false then if geI x1.2.2.1 x1.1.1=false then if ltI x1.2.2.2.1 0=false then if geI x1.2.2.2.1 16 then some 1 else if eqI x1.2.1 2 then if Jq (eqT J0o x1.2 x1.2)then some 1 else if gtI (J0 x1.2.2.2.2) 12 then some 22 else some 0 else if Jq (eqT J0o x1.2 (x1.2.1,x1.2.2.1,x1.2.2.2.1,[]))then some 1 else if gtI (J0 x1.2.2.2.2) 12 then some 22 else some 0 else some 1 else some 1 else some 1 else if eqI x1.2.1 3 then if ltI x1.2.2.1 0=false then if geI x1.2.2.1 x1.1.1=false then if ltI x1.2.2.2.1 0=false then if geI x1.2.2.2.1 16 then some 1 else if eqI x1.2.1 2 then if Jq (eqT J0o x1.2 x1.2)then some 1 else if gtI (J0 x1.2.2.2.2) 12 then some 22 else some 0 else if Jq (eqT J0o x1.2 (x1.2.1,x1.2.2.1,x1.2.2.2.1,[]))then some 1 else if gtI (J0 x1.2.2.2.2) 12 then some 22 else some 0 else some 1 else some 1 else some 1 else if eqI x1.2.1 7 then if ltI x1.2.2.2.1 0=false then if geI x1.2.2.2.1 8 then some 1 else if Jq (eqT J0o x1.2 (x1.2.1,0,x1.2.2.2.1,[]))then some 1 else if gtI (J0 x1.2.2.2.2) 12 then some 22 else some 0 else some 1 else if eqI x1.2.1 4 then if Jq (eqT J0o x1.2 (x1.2.1,0,0,[]))then some 1 else if gtI (J0 x1.2.2.2.2) 12 then some 22 else some 0 else if eqI x1.2.1 5 then if Jq (eqT J0o x1.2 (x1.2.1,0,0,[]))then some 1 else if gtI (J0 x1.2.2.2.2) 12 then some 22 else some 0 else if eqI x1.2.1 6 then if Jq (eqT J0o x1.2 (x1.2.1,0,0,[]))then some 1 else if gtI (J0 x1.2.2.2.2) 12 then some 22 else some 0 else some 1
def J2v(x1:JdQ):Option (Int):=(JL x1.1).bind λk=>if Jq k then some 15 else(J0P (x1.1.2.2.2.2.2.1,x1.2.1)).bind λh=>if ltI h 0 then some 16 else(idx x1.1.2.2.2.2.2.1 h).bind λn=>if neI n.2.1 1 then some 15 else(J4K (x1.1,x1.2.2)).bind λj=>if neI j 0 then some j else(J3o (x1.1.2.2.2.2.1,x1.2.1)).bind λg=>(J7o x1.2).bind λe=>if g.2 then if neI x1.2.2.1 5 then if Jq e.2=false then if Jq (eqT J8 e.1 g.1)then some 15 else some 0 else some 15 else some 0 else some 0
def J6q(x1:JdQ):Option (J6v):=(J2v x1).bind λz=>if neI z 0 then(Jx z).bind λA=>some (x1.1,A)else if eqI x1.2.2.1 4 then(J3P (x1.1,x1.2.1)).bind λE=>some E else if eqI x1.2.2.1 5 then(J3x (x1.1,x1.2.1,1)).bind λC=>some C else if eqI x1.2.2.1 6 then(J7B (x1.1.2.2.2.2.2.1,x1.2.1)).bind λo=>if eqI x1.2.2.1 7 then(J7H (x1.1.2.2.2.2.2.1,x1.2.1,x1.2.2.2.2.1)).bind λn=>if neI n.2 0 then(Jx n.2).bind λB=>some (x1.1,B)else some ((x1.1.1,x1.1.2.1,x1.1.2.2.1,x1.1.2.2.2.1,x1.1.2.2.2.2.1,n.1,x1.1.2.2.2.2.2.2),1,0,0,(false,[]),0)else if neI o.2 0 then(Jx o.2).bind λD=>some (x1.1,D)else some ((x1.1.1,x1.1.2.1,x1.1.2.2.1,x1.1.2.2.2.1,x1.1.2.2.2.2.1,o.1,x1.1.2.2.2.2.2.2),1,0,0,(false,[]),0)else if eqI x1.2.2.1 7 then(J7B (x1.1.2.2.2.2.2.1,x1.2.1)).bind λg=>if eqI x1.2.2.1 7 then(J7H (x1.1.2.2.2.2.2.1,x1.2.1,x1.2.2.2.2.1)).bind λk=>if neI k.2 0 then(Jx k.2).bind λy=>some (x1.1,y)else some ((x1.1.1,x1.1.2.1,x1.1.2.2.1,x1.1.2.2.2.1,x1.1.2.2.2.2.1,k.1,x1.1.2.2.2.2.2.2),1,0,0,(false,[]),0)else if neI g.2 0 then(Jx g.2).bind λq=>some (x1.1,q)else some ((x1.1.1,x1.1.2.1,x1.1.2.2.1,x1.1.2.2.2.1,x1.1.2.2.2.2.1,g.1,x1.1.2.2.2.2.2.2),1,0,0,(false,[]),0)else(J7o x1.2).bind λw=>(J74 (x1.1.2.2.2.2.1,w.1)).bind λe=>if neI e.2.2 0 then(Jx e.2.2).bind λx=>some (x1.1,x)else if e.2.1 then(J3G ((x1.1.1,x1.1.2.1,x1.1.2.2.1,x1.1.2.2.2.1,e.1,x1.1.2.2.2.2.2),x1.2)).bind λh=>if eqI h.2.1 5 then some (x1.1,h.2)else some h else(J97 (e.1,x1.2.1)).bind λr=>if gtI (J0 r) 0 then(J3x ((x1.1.1,x1.1.2.1,x1.1.2.2.1,x1.1.2.2.2.1,e.1,x1.1.2.2.2.2.2),x1.2.1,4)).bind λj=>if eqI j.2.1 5 then some (x1.1,j.2)else some j else(JbJ ((x1.1.1,x1.1.2.1,x1.1.2.2.1,x1.1.2.2.2.1,e.1,x1.1.2.2.2.2.2),x1.2.1)).bind λv=>some ((x1.1.1,x1.1.2.1,x1.1.2.2.1,x1.1.2.2.2.1,e.1,x1.1.2.2.2.2.2),2,v,0,(false,[]),0)
def J2R(x1:J3z):Option (Bool):=(J0P (x1.1.1.2.2.2.2.2.1,x1.2)).bind λe=>if geI e 0 then(idx x1.1.1.2.2.2.2.2.1 e).bind λg=>some (neI g.2.1 1)else some false
def Jc5:Int×Jw×Jw->Option ((Int×Jw×Jw)⊕(J3z)):=fun(g,e,j)=>(J2R (e,g)).bind λn=>if n then(J1f (e.1,g)).bind λh=>if eqI h.2.1 5 then some (.inr (((0,0,(0,[],0),(0,[],0),([],[]),[],[],[]),[],0,[],false,[]),h.2.2.2.2.2))else if eqI h.2.1 3 then(J2k (e,h.2.2.2.1)).bind λk=>if neI k.2 0 then some (.inr (((0,0,(0,[],0),(0,[],0),([],[]),[],[],[]),[],0,[],false,[]),k.2))else some (.inl (g,k.1,j))else some (.inl (g,(h.1,e.2),j))else some (.inr (e,0))
def J34(x1:J3z):Option (J3z):=(JL x1.1.1).bind λg=>if Jq g then some (((0,0,(0,[],0),(0,[],0),([],[]),[],[],[]),[],0,[],false,[]),15)else(J0P (x1.1.1.2.2.2.2.2.1,x1.2)).bind λe=>if ltI e 0 then some (((0,0,(0,[],0),(0,[],0),([],[]),[],[],[]),[],0,[],false,[]),16)else Jf (Jc5) (x1.2,x1.1,(0,0,(0,[],0),(0,[],0),([],[]),[],[],[]),[],0,[],false,[])
def JmW:TQ28->Option ((TQ28)⊕(TQ81)):=fun(h,e,j,r,q)=>(J6q (e.1,h,j)).bind λg=>if eqI g.2.1 3 then(J2k ((g.1,e.2),g.2.2.2.1)).bind λv=>if neI v.2 0 then(Jx v.2).bind λC=>some (.inr ((g.1,e.2),C))else some (.inl (h,v.1,j,r,q))else if eqI g.2.1 4=false then if eqI g.2.1 1 then if eqI j.1 5=false then if eqI j.1 7 then(J2R ((g.1,e.2),h)).bind λz=>if z then(J34 ((g.1,e.2),h)).bind λo=>if neI o.2 0 then(Jx o.2).bind λB=>some (.inr ((g.1,e.2),B))else some (.inr (o.1,g.2))else some (.inr ((g.1,e.2),g.2))else some (.inr ((g.1,e.2),g.2))else(J2R ((g.1,e.2),h)).bind λA=>if A then(J34 ((g.1,e.2),h)).bind λk=>if neI k.2 0 then(Jx k.2).bind λy=>some (.inr ((g.1,e.2),y))else some (.inr (k.1,g.2))else some (.inr ((g.1,e.2),g.2))else some (.inr ((g.1,e.2),g.2))else(J2R ((g.1,e.2),h)).bind λx=>if x then(J34 ((g.1,e.2),h)).bind λn=>if neI n.2 0 then(Jx n.2).bind λw=>some (.inr ((g.1,e.2),w))else some (.inr (n.1,g.2))else some (.inr ((g.1,e.2),g.2))
def JcL(x1:JI7):Option (TQ81):=Jf (JmW) (x1.2.1,x1.1,x1.2.2,((0,0,(0,[],0),(0,[],0),([],[]),[],[],[]),[],0,[],false,[]),0,0,0,(false,[]),0)
def J2z(x1:JvR):Option (J6v):=(J1a (x1.1,x1.2.1)).bind λe=>if neI e.2 0 then(Jx e.2).bind λj=>some (x1.1,j)else if neI e.1.2.1 3 then(Jx 15).bind λk=>some (x1.1,k)else(J2N x1).bind λg=>if Jq g.2 then some (x1.1,1,0,0,(false,[]),0)else(J2h (x1.1,e.1,g.1)).bind λh=>some h
def Jj6:JOH->Option ((JOH)⊕(JqL)):=fun(h,g,e,j,n)=>(J2z (e.1,h,j)).bind λk=>if eqI k.2.1 5 then some (.inr (e,g,k.2.2.2.2.2))else if eqI k.2.1 3 then(J2k (e,k.2.2.2.1)).bind λo=>if neI o.2 0 then some (.inr (e,g,o.2))else some (.inl (h,g,o.1,j,n))else if eqI k.2.2.1 0 then some (.inr (e,g,0))else some (.inl (h,J1 .i64 g 1,(k.1,e.2),j,n))
def JaC(x1:JGX):Option (JqL):=Jf (Jj6) (x1.2.1,0,x1.1,x1.2.2,(0,0,(0,[],0),(0,[],0),([],[]),[],[],[]),[],0,[],false,[])
def Jna(z2:TQ28):Option ((TQ28)⊕(TQ81)):=(JcL (z2.2.1,z2.1,z2.2.2.1)).bind λe=>if neI e.2.1 2 then some (.inr e)else(J7a (e.1.1,z2.1)).bind λh=>if Jq h.2.2 then some (.inr e)else(JaC (e.1,h.1,h.2.1)).bind λg=>if neI g.2.2 0 then(Jx g.2.2).bind λj=>some (.inr (g.1,j))else if eqI g.2.1 0 then some (.inr (g.1,e.2))else some (.inl (z2.1,g.1,z2.2.2))
def Jd1(x1:JI7):Option (TQ81):=Jf (Jna) (x1.2.1,x1.1,x1.2.2,((0,0,(0,[],0),(0,[],0),([],[]),[],[],[]),[],0,[],false,[]),0,0,0,(false,[]),0)
def J4A(x1:TQ4):Option (TQ3):=if ltI x1.1.2.1 1=false then if gtI x1.1.2.1 (J0 x1.2.2.2.2.2.2.2.2.2.2.2.2.2.2.2.2.2.2.2.2.1)=false then(inb (List.length x1.2.2.2.2.2.2.2.2.2.2.2.2.2.2.2.2.2.2.2.2.1) (JG .i64 x1.1.2.1 1)).bind λ_=>(lat x1.2.2.2.2.2.2.2.2.2.2.2.2.2.2.2.2.2.2.2.2.1 (Int.toNat (JG .i64 x1.1.2.1 1))).bind λk=>if eqI k 0 then(Jx 16).bind λo=>some (o,x1.2)else(inb (List.length x1.2.2.2.2.2.2.2.2.2.2.2.2.2.2.2.2.2.2.2.2.1) (JG .i64 x1.1.2.1 1)).bind λ_=>(lat x1.2.2.2.2.2.2.2.2.2.2.2.2.2.2.2.2.2.2.2.2.1 (Int.toNat (JG .i64 x1.1.2.1 1))).bind λg=>(Jd1 (((x1.2.1,x1.2.2.1,(x1.2.2.2.1,x1.2.2.2.2.1,x1.2.2.2.2.2.1),(x1.2.2.2.2.2.2.1,x1.2.2.2.2.2.2.2.1,x1.2.2.2.2.2.2.2.2.1),(x1.2.2.2.2.2.2.2.2.2.1,x1.2.2.2.2.2.2.2.2.2.2.1),x1.2.2.2.2.2.2.2.2.2.2.2.1,x1.2.2.2.2.2.2.2.2.2.2.2.2.1,x1.2.2.2.2.2.2.2.2.2.2.2.2.2.1),x1.2.2.2.2.2.2.2.2.2.2.2.2.2.2.1,x1.2.2.2.2.2.2.2.2.2.2.2.2.2.2.2.1,x1.2.2.2.2.2.2.2.2.2.2.2.2.2.2.2.2.1,x1.2.2.2.2.2.2.2.2.2.2.2.2.2.2.2.2.2.1,x1.2.2.2.2.2.2.2.2.2.2.2.2.2.2.2.2.2.2.1),g,x1.1.2.2.2.2.2)).bind λe=>if eqI e.2.1 5 then some (e.2,x1.2)else if eqI e.2.1 1 then if eqI x1.1.2.2.2.2.2.1 1 then(J3X e.1.1.2.2.1).bind λq=>(Jy 56 x1.2.2.2.2.2.2.2.2.2.2.2.2.2.2.2.2.2.2.2.2.2 [(g,x1.1.2.2.2.2.2.2.1,x1.1.2.2.2.2.2.2.2.1,q,e.2.2.2.2.1)]).bind λn=>some (e.2,e.1.1.1,e.1.1.2.1,e.1.1.2.2.1.1,e.1.1.2.2.1.2.1,e.1.1.2.2.1.2.2,e.1.1.2.2.2.1.1,e.1.1.2.2.2.1.2.1,e.1.1.2.2.2.1.2.2,e.1.1.2.2.2.2.1.1,e.1.1.2.2.2.2.1.2,e.1.1.2.2.2.2.2.1,e.1.1.2.2.2.2.2.2.1,e.1.1.2.2.2.2.2.2.2,e.1.2.1,e.1.2.2.1,e.1.2.2.2.1,e.1.2.2.2.2.1,e.1.2.2.2.2.2,x1.2.2.2.2.2.2.2.2.2.2.2.2.2.2.2.2.2.2.2.1,x1.2.2.2.2.2.2.2.2.2.2.2.2.2.2.2.2.2.2.2.2.1,n)else some (e.2,e.1.1.1,e.1.1.2.1,e.1.1.2.2.1.1,e.1.1.2.2.1.2.1,e.1.1.2.2.1.2.2,e.1.1.2.2.2.1.1,e.1.1.2.2.2.1.2.1,e.1.1.2.2.2.1.2.2,e.1.1.2.2.2.2.1.1,e.1.1.2.2.2.2.1.2,e.1.1.2.2.2.2.2.1,e.1.1.2.2.2.2.2.2.1,e.1.1.2.2.2.2.2.2.2,e.1.2.1,e.1.2.2.1,e.1.2.2.2.1,e.1.2.2.2.2.1,e.1.2.2.2.2.2,x1.2.2.2.2.2.2.2.2.2.2.2.2.2.2.2.2.2.2.2)else some (e.2,e.1.1.1,e.1.1.2.1,e.1.1.2.2.1.1,e.1.1.2.2.1.2.1,e.1.1.2.2.1.2.2,e.1.1.2.2.2.1.1,e.1.1.2.2.2.1.2.1,e.1.1.2.2.2.1.2.2,e.1.1.2.2.2.2.1.1,e.1.1.2.2.2.2.1.2,e.1.1.2.2.2.2.2.1,e.1.1.2.2.2.2.2.2.1,e.1.1.2.2.2.2.2.2.2,e.1.2.1,e.1.2.2.1,e.1.2.2.2.1,e.1.2.2.2.2.1,e.1.2.2.2.2.2,x1.2.2.2.2.2.2.2.2.2.2.2.2.2.2.2.2.2.2.2)else(Jx 16).bind λh=>some (h,x1.2)else(Jx 16).bind λj=>some (j,x1.2)
def Ja5(x1:J0l×Int×(List UInt8)×Int):Option (J5Z):=(J2p (x1.1,x1.2.1)).bind λh=>if neI h 0 then some (([],0,[],false,[]),h)else if ltI x1.2.2.2 0=false then if gtI x1.2.2.2 256 then some (([],0,[],false,[]),1)else if neI (J0 x1.2.2.1) 256 then some (([],0,[],false,[]),2)else(J7k x1.1).bind λg=>(J1B (g.1,g.2.1,g.2.2.1,x1.2.1,x1.2.2.1,x1.2.2.2,g.2.2.2)).bind λe=>some ((e.2.2.2.1,e.1,e.2.1,e.2.2.1,e.2.2.2.2),0)else some (([],0,[],false,[]),1)
def J6L(x1:List UInt8):Option (List UInt8):=if gtI (J0 x1) 8392 then some []else(JP ([],J0 x1,4)).bind λg=>(J6n g x1).bind λe=>(J5W e).bind λh=>(JP (e,cvI .i64 h,4)).bind λj=>some j
def J7J(x1:(List UInt8)×J2f):Option (List UInt8):=if Jq x1.2.1 then(JP (x1.1,255,1)).bind λg=>some g else(JP (x1.1,J0 x1.2.2,1)).bind λe=>(J6n e x1.2.2).bind λh=>some h
def J89(x1:T_api_Entry):Option (J3S):=(J02 x1).bind λv=>if Jq v then some ([],12)else(JP ([],x1.1,8)).bind λq=>(JP (q,x1.2.1,1)).bind λx=>(JP (x,x1.2.2.1,4)).bind λy=>(JP (y,x1.2.2.2.1,8)).bind λo=>(JP (o,x1.2.2.2.2.1,8)).bind λn=>(JP (n,x1.2.2.2.2.2.1,8)).bind λw=>(JP (w,x1.2.2.2.2.2.2.1.1,4)).bind λr=>(JP (r,x1.2.2.2.2.2.2.1.2.1,1)).bind λe=>(J7J (e,x1.2.2.2.2.2.2.1.2.2.1)).bind λj=>(J7J (j,x1.2.2.2.2.2.2.1.2.2.2)).bind λh=>(JP (h,J0 x1.2.2.2.2.2.2.2,4)).bind λk=>(J6n k x1.2.2.2.2.2.2.2).bind λg=>some (g,0)
def J6I(x1:T_api_Entry):Option (List UInt8):=(J89 x1).bind λg=>(J6L g.1).bind λe=>some e
def Ja3(x1:Int):Option (List UInt8):=(JP ([80,77,76,71],x1,8)).bind λg=>(J6L g).bind λe=>some e
def JeS:JNv->Option ((JNv)⊕(List UInt8)):=fun(j,k,h,g,e)=>if ltI g (J0 e.2.1)then(idx e.2.1 g).bind λz=>if leI z.1 e.2.2 then(idx e.2.1 g).bind λw=>(J6I w).bind λv=>(J6n k v).bind λy=>some (.inl (j,y,h,J1 .i64 g 1,e))else(idx e.2.1 g).bind λx=>(J6I x).bind λn=>(J6n h n).bind λq=>some (.inl (j,k,q,J1 .i64 g 1,e))else Option.map .inr ((J0z h none (some (JaZ (J1P j 0) (J0 h)))).bind λo=>(J6n k o).bind λr=>some r)
def J4n(x1:J73):Option (List UInt8):=(J0i x1.1).bind λg=>if Jq g then some []else(Ja3 x1.1.1).bind λe=>Jf (JeS) (x1.2,e,[],0,x1.1)
def J99(x1:JGX):Option (J0l×(List UInt8)):=(J1p (x1.1.1.2.2.2.1,x1.2.2.1)).bind λe=>if geI e 0 then(idx x1.1.1.2.2.2.1.2.1 e).bind λq=>if q.2.1 then(idx x1.1.1.2.2.2.1.2.1 e).bind λv=>(J4G v.1).bind λw=>(idx x1.1.1.2.2.2.1.2.1 e).bind λo=>(J2E (x1.1.1,o.1.2.1)).bind λg=>(Ja5 (x1.1.2,x1.2.2.1,w.1,x1.2.2.2)).bind λn=>if eqI n.2 0 then(J4n (g.2.2.1,x1.2.1)).bind λr=>some (n.1,r)else(J4n (g.2.2.1,x1.2.1)).bind λh=>some (x1.1.2,h)else(J4n (x1.1.1.2.2.1,x1.2.1)).bind λk=>some (x1.1.2,k)else(J4n (x1.1.1.2.2.1,x1.2.1)).bind λj=>some (x1.1.2,j)
def J5H(x1:J3S):Option (J0C):=if ltI x1.2 0=false then if gtI x1.2 (J0 x1.1)then some ([],0,1)else(J0x (x1.1,x1.2,4)).bind λe=>if neI e.2 0 then some ([],0,5)else if gtI e.1 8392 then some ([],0,2)else if ltI (JG .i64 (J0 x1.1) x1.2) (J1 .i64 e.1 8)then some ([],0,5)else(J0x (x1.1,J1 .i64 (J1 .i64 x1.2 4) e.1,4)).bind λh=>(J0z x1.1 (some x1.2) (some (J1 .i64 (J1 .i64 x1.2 4) e.1))).bind λj=>(J5W j).bind λk=>if neI (cvI .u32 h.1) k then some ([],0,3)else(J0z x1.1 (some (J1 .i64 x1.2 4)) (some (J1 .i64 (J1 .i64 x1.2 4) e.1))).bind λg=>some (g,J1 .i64 (J1 .i64 x1.2 8) e.1,0)else some ([],0,1)
def J3k(x1:JCD):Option ((List UInt8)×J0C):=if neI x1.2.2.2 0 then some ([],x1.2)else if gtI x1.1 (JG .i64 (J0 x1.2.1) x1.2.2.1)then some ([],x1.2.1,x1.2.2.1,5)else(J0z x1.2.1 (some (JG .i64 (J1 .i64 x1.2.2.1 x1.1) x1.1)) (some (J1 .i64 x1.2.2.1 x1.1))).bind λe=>some (e,x1.2.1,J1 .i64 x1.2.2.1 x1.1,x1.2.2.2)
def J0y(x1:JCD):Option (JCD):=if neI x1.2.2.2 0 then some (0,x1.2)else(J0x (x1.2.1,x1.2.2.1,x1.1)).bind λe=>if neI e.2 0 then some (0,x1.2.1,x1.2.2.1,e.2)else some (e.1,x1.2.1,J1 .i64 x1.2.2.1 x1.1,x1.2.2.2)
def J3E(x1:J0C):Option (J2f×J0C):=(J0y (1,x1)).bind λe=>if neI e.2.2.2 0=false then if eqI e.1 255 then some ((false,[]),e.2)else if gtI e.1 12 then some ((false,[]),e.2.1,e.2.2.1,4)else(J3k e).bind λg=>some ((true,g.1),g.2)else some ((false,[]),e.2)
def J88(x1:List UInt8):Option (JjS):=(J0y (8,x1,0,0)).bind λq=>(J0y (1,q.2)).bind λn=>(J0y (4,n.2)).bind λv=>(J0y (8,v.2)).bind λw=>(J0y (8,w.2)).bind λk=>(J0y (8,k.2)).bind λj=>(J0y (4,j.2)).bind λr=>(J0y (1,r.2)).bind λo=>(J3E o.2).bind λg=>(J3E g.2).bind λh=>(J0y (4,h.2)).bind λy=>(J3k y).bind λe=>if neI e.2.2.2 0 then some ((0,0,0,0,0,0,(0,0,(false,[]),false,[]),[]),e.2.2.2)else if neI e.2.2.1 (J0 x1)then some ((0,0,0,0,0,0,(0,0,(false,[]),false,[]),[]),4)else(J02 (q.1,n.1,v.1,w.1,k.1,j.1,(r.1,o.1,g.1,h.1),e.1)).bind λx=>if Jq x then some ((0,0,0,0,0,0,(0,0,(false,[]),false,[]),[]),12)else some ((q.1,n.1,v.1,w.1,k.1,j.1,(r.1,o.1,g.1,h.1),e.1),0)
def Jh1:JOr->Option ((JOr)⊕(J73)):=fun(h,q,r,v,k,g,o,e)=>if ltI (J0 g) 4096 then(J5H (h,q)).bind λn=>if neI n.2.2 0 then some (.inr ((e.1,g,e.2),0))else(J88 n.1).bind λj=>if neI j.2 0=false then if neI j.1.1 (J1 .i64 e.2 1)then some (.inr ((e.1,g,e.2),0))else(Jy 128 g [j.1]).bind λw=>some (.inl (h,n.2.1,r,v,k,w,o,e.1,j.1.1))else some (.inr ((e.1,g,e.2),0))else some (.inr ((e.1,g,e.2),0))
def JaF(x1:List UInt8):Option (J73):=(J5H (x1,0)).bind λe=>if neI e.2.2 0=false then if neI (J0 e.1) 12=false then(J0z e.1 none (some 4)).bind λh=>if neS h [80,77,76,71]then some ((0,[],0),4)else(J0x (e.1,4,8)).bind λg=>if ltI g.1 1=false then if gtI g.1 1099511627776 then some ((0,[],0),4)else Jf (Jh1) (x1,e.2.1,[],0,0,[],[],g.1,JG .i64 g.1 1)else some ((0,[],0),4)else some ((0,[],0),4)else some ((0,[],0),4)
def Jax(x1:JuB):Option (Bool):=if neI x1.1.2.1.1 x1.2.2.1.1 then some (ltI x1.1.2.1.1 x1.2.2.1.1)else if neI x1.1.2.1.2 x1.2.2.1.2 then some (ltI x1.1.2.1.2 x1.2.2.1.2)else some (ltI x1.1.1 x1.2.1)
def Ji1:(List T_api_Grant)×Int×T_api_Grant->Option (((List T_api_Grant)×Int×T_api_Grant)⊕(List T_api_Grant)):=fun(e,g,h)=>if ltI g (J0 e)then(idx e g).bind λH=>(Jax (H,h)).bind λM=>if M then some (.inl (e,J1 .i64 g 1,h))else Option.map .inr (if ltI g (J0 e)then(idx e g).bind λJ=>if eqT J8 J h then some e else(J0z e none (some g)).bind λK=>(J1g 32 K).bind λG=>(Jy 32 G [h]).bind λI=>(J0z e (some g) none).bind λL=>(Jy 32 I L).bind λk=>some k else(J0z e none (some g)).bind λF=>(J1g 32 F).bind λD=>(Jy 32 D [h]).bind λn=>(J0z e (some g) none).bind λB=>(Jy 32 n B).bind λr=>some r)else Option.map .inr (if ltI g (J0 e)then(idx e g).bind λC=>if eqT J8 C h then some e else(J0z e none (some g)).bind λx=>(J1g 32 x).bind λy=>(Jy 32 y [h]).bind λA=>(J0z e (some g) none).bind λz=>(Jy 32 A z).bind λo=>some o else(J0z e none (some g)).bind λE=>(J1g 32 E).bind λw=>(Jy 32 w [h]).bind λq=>(J0z e (some g) none).bind λj=>(Jy 32 q j).bind λv=>some v)
def Jat(x1:JIo):Option (List T_api_Grant):=Jf (Ji1) (x1.1,0,x1.2)
def JeK:JOj->Option ((JOj)⊕((JLC)⊕(JsZ))):=fun(g,n,e,j,h)=>(idx g e).bind λv=>if ltI j (J0 v.2.2.2.2.1)then(idx g e).bind λw=>(idx w.2.2.2.2.1 j).bind λo=>(J0M (h,o)).bind λk=>if neI k.2 0 then Option.map .inr (some (.inr ([],14)))else if neI k.1.2.1 1=false then(idx g e).bind λr=>if neI k.1.2.2.1 r.1 then Option.map .inr (some (.inr ([],13)))else(Jat (n,k.1.2.2.1,(k.1.2.2.2.2.2.2.1.1,k.1.2.2.2.2.2.2.1.2.1),2)).bind λq=>some (.inl (g,q,e,J1 .i64 j 1,h))else Option.map .inr (some (.inr ([],13)))else some (.inr (.inl (g,n,J1 .i64 e 1,h)))
def Jgs:JLC->Option ((JLC)⊕(JsZ)):=fun(e,g,h,j)=>if ltI h (J0 e)then Jf (JeK) (e,g,h,0,j)else some (.inr (g,0))
def J8S(x1:J07×(List Ju)):Option (JsZ):=Jf (Jgs) (x1.2,[],0,x1.1)
def Jdm:JOU->Option ((JOU)⊕(JpA)):=fun(g,j,e,k,h)=>if ltI e j then(J0x (g,J1 .i64 2 (J3f .i64 24 e),8)).bind λr=>(J0x (g,J1 .i64 10 (J3f .i64 24 e),8)).bind λv=>(J0x (g,J1 .i64 18 (J3f .i64 24 e),8)).bind λo=>(Jy 24 h [(r.1,v.1,o.1)]).bind λn=>some (.inl (g,j,J1 .i64 e 1,k,n))else Option.map .inr ((J1D h).bind λq=>if Jq q then some ([],28)else some (h,0))
def J7Q(x1:List UInt8):Option (JpA):=(J0x (x1,0,2)).bind λe=>if neI e.2 0=false then if ltI (JG .i64 (J0 x1) 2) (J3f .i64 24 e.1)then some ([],5)else if gtI (JG .i64 (J0 x1) 2) (J3f .i64 24 e.1)then some ([],4)else Jf (Jdm) (x1,e.1,0,[],[])else some ([],5)
def J11(x1:JC3):Option (JC3):=(J0x (x1.2.1,x1.2.2.1,x1.1)).bind λe=>if x1.2.2.2=false then if neI e.2 0 then some (0,x1.2.1,x1.2.2.1,true)else some (e.1,x1.2.1,J1 .i64 x1.2.2.1 x1.1,x1.2.2.2)else some (0,x1.2.1,x1.2.2.1,true)
def J9J:JLo->Option ((JLo)⊕((List Int)×J2o)):=fun(h,e,g)=>if gtI h 0 then if Jq e.2.2 then(J11 (8,e)).bind λj=>(Jy 8 g [j.1]).bind λk=>some (.inl (JG .i64 h 1,j.2,k))else some (.inr (g,e))else some (.inr (g,e))
def J3D(x1:JC3):Option ((List Int)×J2o):=(J11 x1).bind λe=>Jf (J9J) (e.1,e.2,[])
def Jdk:JNL->Option ((JNL)⊕(J2t)):=fun(h,j,e,g)=>if gtI j 0 then if Jq e.2.2 then(J11 (4,e)).bind λx=>(J11 (1,x.2)).bind λy=>(J11 (8,y.2)).bind λn=>(J11 (8,n.2)).bind λk=>(J3D (2,k.2)).bind λw=>(J3D (1,w.2)).bind λo=>(Jy 80 g [(x.1,y.1,n.1,k.1,w.1,o.1)]).bind λq=>some (.inl (h,JG .i64 j 1,o.2,q))else Option.map .inr (if e.2.2 then some ([],5)else if neI e.2.1 (J0 h)then some ([],4)else(J0Z g).bind λv=>if Jq v then some ([],15)else some (g,0))else Option.map .inr (if e.2.2 then some ([],5)else if neI e.2.1 (J0 h)then some ([],4)else(J0Z g).bind λr=>if Jq r then some ([],15)else some (g,0))
def J87(x1:List UInt8):Option (J2t):=(J11 (2,x1,0,false)).bind λe=>Jf (Jdk) (x1,e.1,e.2,[])
def Jet:TQ9->Option ((TQ9)⊕(Jpd)):=fun(e,r,g,v,q,z,C,A,y,B,h,k,j,x,w)=>if ltI q v then(J0x (e,g,1)).bind λH=>(J0x (e,J1 .i64 g 1,8)).bind λI=>(J0x (e,J1 .i64 g 9,8)).bind λD=>(Jy 24 h [(H.1,I.1,D.1)]).bind λG=>some (.inl (e,r,J1 .i64 g 17,v,J1 .i64 q 1,z,C,A,y,B,G,k,j,x,w))else Option.map .inr ((J87 r).bind λo=>if neI o.2 0 then some ((0,0,[],[],[]),o.2)else(J0z e (some g) none).bind λE=>(J7Q E).bind λn=>if neI n.2 0 then some ((0,0,[],[],[]),n.2)else(J6H (k,j,o.1,h,n.1)).bind λF=>if Jq F then some ((0,0,[],[],[]),24)else some ((k,j,o.1,h,n.1),0))
def J7R(x1:List UInt8):Option (Jpd):=(J0x (x1,0,2)).bind λj=>(J0x (x1,2,4)).bind λh=>(J0x (x1,6,4)).bind λe=>if neI e.2 0=false then if gtI e.1 (JG .i64 (J0 x1) 10)then some ((0,0,[],[],[]),5)else(J0z x1 (some 10) (some (J1 .i64 10 e.1))).bind λk=>(J0x (x1,J1 .i64 10 e.1,1)).bind λg=>if neI g.2 0=false then if ltI (JG .i64 (JG .i64 (J0 x1) (J1 .i64 10 e.1)) 1) (J3f .i64 17 g.1)then some ((0,0,[],[],[]),5)else Jf (Jet) (x1,k,J1 .i64 (J1 .i64 10 e.1) 1,g.1,0,[],0,0,[],[],[],j.1,h.1,[],[])else some ((0,0,[],[],[]),5)else some ((0,0,[],[],[]),5)
def Jee:Int×J07×J14->Option ((Int×J07×J14)⊕(J14×Int×Bool)):=fun(e,g,h)=>if geI e 0 then(idx g.2.1 e).bind λn=>if neI n.2.1 6 then some (.inl (JG .i64 e 1,g,h))else(idx g.2.1 e).bind λo=>(J7R o.2.2.2.2.2.2.2).bind λj=>if eqI j.2 0 then(idx g.2.1 e).bind λk=>some (.inr (j.1,k.1,true))else some (.inl (JG .i64 e 1,g,h))else some (.inr ((0,0,[],[],[]),0,false))
def J7O(x1:J07):Option (J14×Int×Bool):=(J0i x1).bind λe=>if Jq e then some ((0,0,[],[],[]),0,false)else Jf (Jee) (JG .i64 (J0 x1.2.1) 1,x1,0,0,[],[],[])
def J8V(x1:J73):Option (Js0):=(J7O x1.1).bind λe=>if Jq e.2.2 then if gtI x1.1.1 1 then some ((0,0,0,[],[],[],[]),24)else(J8F x1.2).bind λg=>some ((x1.2,1,0,[],[],[],g.1),0)else if neI e.1.1 x1.2 then some ((0,0,0,[],[],[],[]),24)else some ((x1.2,e.1.2.1,e.2.1,e.1.2.2.1,[],e.1.2.2.2),0)
def Jaq:JAj->Option ((JAj)⊕(List T_api_Row)):=fun(h,n,g,e,j)=>if ltI g (J0 h)then(idx h g).bind λk=>if gtI k.1 e.2.2.2.2.2.2.1.1 then if Jq n then(JN e).bind λO=>if O then(Jy 24 j [(e.2.2.2.2.2.2.1.1,e.1,e.1)]).bind λo=>if eqI k.1 e.2.2.2.2.2.2.1.1 then(JN e).bind λM=>if M then(Jy 24 o [(k.1,k.2.1,e.1)]).bind λN=>some (.inl (h,true,J1 .i64 g 1,e,N))else if geI e.2.2.2.2.2.1 k.2.2 then some (.inl (h,true,J1 .i64 g 1,e,o))else if geI e.2.2.2.2.2.1 k.2.1 then(Jy 24 o [(k.1,J1 .i64 e.2.2.2.2.2.1 1,k.2.2)]).bind λP=>some (.inl (h,true,J1 .i64 g 1,e,P))else(Jy 24 o [k]).bind λr=>some (.inl (h,true,J1 .i64 g 1,e,r))else(Jy 24 o [k]).bind λK=>some (.inl (h,true,J1 .i64 g 1,e,K))else if eqI k.1 e.2.2.2.2.2.2.1.1 then(JN e).bind λH=>if H then(Jy 24 j [(k.1,k.2.1,e.1)]).bind λv=>some (.inl (h,true,J1 .i64 g 1,e,v))else if geI e.2.2.2.2.2.1 k.2.2 then some (.inl (h,true,J1 .i64 g 1,e,j))else if geI e.2.2.2.2.2.1 k.2.1 then(Jy 24 j [(k.1,J1 .i64 e.2.2.2.2.2.1 1,k.2.2)]).bind λF=>some (.inl (h,true,J1 .i64 g 1,e,F))else(Jy 24 j [k]).bind λy=>some (.inl (h,true,J1 .i64 g 1,e,y))else(Jy 24 j [k]).bind λG=>some (.inl (h,n,J1 .i64 g 1,e,G))else if eqI k.1 e.2.2.2.2.2.2.1.1 then(JN e).bind λB=>if B then(Jy 24 j [(k.1,k.2.1,e.1)]).bind λC=>some (.inl (h,true,J1 .i64 g 1,e,C))else if geI e.2.2.2.2.2.1 k.2.2 then some (.inl (h,true,J1 .i64 g 1,e,j))else if geI e.2.2.2.2.2.1 k.2.1 then(Jy 24 j [(k.1,J1 .i64 e.2.2.2.2.2.1 1,k.2.2)]).bind λE=>some (.inl (h,true,J1 .i64 g 1,e,E))else(Jy 24 j [k]).bind λD=>some (.inl (h,true,J1 .i64 g 1,e,D))else(Jy 24 j [k]).bind λw=>some (.inl (h,n,J1 .i64 g 1,e,w))else if eqI k.1 e.2.2.2.2.2.2.1.1 then(JN e).bind λJ=>if J then(Jy 24 j [(k.1,k.2.1,e.1)]).bind λA=>some (.inl (h,true,J1 .i64 g 1,e,A))else if geI e.2.2.2.2.2.1 k.2.2 then some (.inl (h,true,J1 .i64 g 1,e,j))else if geI e.2.2.2.2.2.1 k.2.1 then(Jy 24 j [(k.1,J1 .i64 e.2.2.2.2.2.1 1,k.2.2)]).bind λx=>some (.inl (h,true,J1 .i64 g 1,e,x))else(Jy 24 j [k]).bind λq=>some (.inl (h,true,J1 .i64 g 1,e,q))else(Jy 24 j [k]).bind λz=>some (.inl (h,n,J1 .i64 g 1,e,z))else Option.map .inr (if Jq n then(JN e).bind λI=>if I then(Jy 24 j [(e.2.2.2.2.2.2.1.1,e.1,e.1)]).bind λL=>some L else some j else some j)
def JsY:JAj->Option ((JAj)⊕(List T_api_Row)):=fun(g,n,h,e,k)=>if ltI h (J0 g)then(idx g h).bind λj=>if gtI j.1 e.2.2.2.2.2.2.1.1 then if Jq n then(JN e).bind λr=>if r then(Jy 24 k [(e.2.2.2.2.2.2.1.1,e.1,e.1)]).bind λo=>if eqI j.1 e.2.2.2.2.2.2.1.1 then(JN e).bind λG=>if G then(Jy 24 o [(j.1,j.2.1,e.1)]).bind λO=>some (.inl (g,true,J1 .i64 h 1,e,O))else if geI e.2.2.2.2.2.1 j.2.2 then some (.inl (g,true,J1 .i64 h 1,e,o))else if geI e.2.2.2.2.2.1 j.2.1 then(Jy 24 o [(j.1,J1 .i64 e.2.2.2.2.2.1 1,j.2.2)]).bind λq=>some (.inl (g,true,J1 .i64 h 1,e,q))else(Jy 24 o [j]).bind λw=>some (.inl (g,true,J1 .i64 h 1,e,w))else(Jy 24 o [j]).bind λL=>some (.inl (g,true,J1 .i64 h 1,e,L))else if eqI j.1 e.2.2.2.2.2.2.1.1 then(JN e).bind λB=>if B then(Jy 24 k [(j.1,j.2.1,e.1)]).bind λE=>some (.inl (g,true,J1 .i64 h 1,e,E))else if geI e.2.2.2.2.2.1 j.2.2 then some (.inl (g,true,J1 .i64 h 1,e,k))else if geI e.2.2.2.2.2.1 j.2.1 then(Jy 24 k [(j.1,J1 .i64 e.2.2.2.2.2.1 1,j.2.2)]).bind λI=>some (.inl (g,true,J1 .i64 h 1,e,I))else(Jy 24 k [j]).bind λJ=>some (.inl (g,true,J1 .i64 h 1,e,J))else(Jy 24 k [j]).bind λz=>some (.inl (g,n,J1 .i64 h 1,e,z))else if eqI j.1 e.2.2.2.2.2.2.1.1 then(JN e).bind λA=>if A then(Jy 24 k [(j.1,j.2.1,e.1)]).bind λx=>some (.inl (g,true,J1 .i64 h 1,e,x))else if geI e.2.2.2.2.2.1 j.2.2 then some (.inl (g,true,J1 .i64 h 1,e,k))else if geI e.2.2.2.2.2.1 j.2.1 then(Jy 24 k [(j.1,J1 .i64 e.2.2.2.2.2.1 1,j.2.2)]).bind λP=>some (.inl (g,true,J1 .i64 h 1,e,P))else(Jy 24 k [j]).bind λy=>some (.inl (g,true,J1 .i64 h 1,e,y))else(Jy 24 k [j]).bind λF=>some (.inl (g,n,J1 .i64 h 1,e,F))else if eqI j.1 e.2.2.2.2.2.2.1.1 then(JN e).bind λN=>if N then(Jy 24 k [(j.1,j.2.1,e.1)]).bind λH=>some (.inl (g,true,J1 .i64 h 1,e,H))else if geI e.2.2.2.2.2.1 j.2.2 then some (.inl (g,true,J1 .i64 h 1,e,k))else if geI e.2.2.2.2.2.1 j.2.1 then(Jy 24 k [(j.1,J1 .i64 e.2.2.2.2.2.1 1,j.2.2)]).bind λC=>some (.inl (g,true,J1 .i64 h 1,e,C))else(Jy 24 k [j]).bind λD=>some (.inl (g,true,J1 .i64 h 1,e,D))else(Jy 24 k [j]).bind λK=>some (.inl (g,n,J1 .i64 h 1,e,K))else Option.map .inr (if Jq n then(JN e).bind λv=>if v then(Jy 24 k [(e.2.2.2.2.2.2.1.1,e.1,e.1)]).bind λM=>some M else some k else some k)
def J2Y(x1:JHU):Option (List T_api_Row):=(JN x1.2).bind λe=>if Jq e then if neI x1.2.2.1 7 then some x1.1 else Jf (Jaq) (x1.1,false,0,x1.2,[])else Jf (JsY) (x1.1,false,0,x1.2,[])
def J9X(x1:J1W×T_api_Entry):Option (Js0):=if gtI x1.2.2.2.1 0 then(J0P (x1.1.2.2.2.1,x1.2.2.2.1)).bind λB=>if ltI B 0 then(J6F (x1.1.2.2.2.1,x1.2.2.2.1)).bind λo=>if neI o.2 0 then some (x1.1,o.2)else(J0G (o.1,x1.2)).bind λk=>if neI k.2 0 then some ((x1.1.1,x1.1.2.1,x1.1.2.2.1,o.1,x1.1.2.2.2.2),k.2)else(J2V (x1.1.2.2.2.2.2.2,x1.2)).bind λn=>if neI n.2 0 then some ((x1.1.1,J1P x1.1.2.1 (J1 .i64 x1.2.2.2.1 1),x1.1.2.2.1,k.1,x1.1.2.2.2.2),n.2)else(JN x1.2).bind λA=>if A then if geI x1.2.2.2.2.2.2.2.1.1 x1.1.1 then some ((x1.1.1,J1P x1.1.2.1 (J1 .i64 x1.2.2.2.1 1),x1.1.2.2.1,k.1,x1.1.2.2.2.2.1,x1.1.2.2.2.2.2.1,n.1),1)else(J2Y (x1.1.2.2.2.2.2.1,x1.2)).bind λz=>some ((x1.1.1,J1P x1.1.2.1 (J1 .i64 x1.2.2.2.1 1),x1.1.2.2.1,k.1,x1.1.2.2.2.2.1,z,n.1),0)else(J2Y (x1.1.2.2.2.2.2.1,x1.2)).bind λC=>some ((x1.1.1,J1P x1.1.2.1 (J1 .i64 x1.2.2.2.1 1),x1.1.2.2.1,k.1,x1.1.2.2.2.2.1,C,n.1),0)else(J0G (x1.1.2.2.2.1,x1.2)).bind λj=>if neI j.2 0 then some (x1.1,j.2)else(J2V (x1.1.2.2.2.2.2.2,x1.2)).bind λh=>if neI h.2 0 then some ((x1.1.1,J1P x1.1.2.1 (J1 .i64 x1.2.2.2.1 1),x1.1.2.2.1,j.1,x1.1.2.2.2.2),h.2)else(JN x1.2).bind λw=>if w then if geI x1.2.2.2.2.2.2.2.1.1 x1.1.1 then some ((x1.1.1,J1P x1.1.2.1 (J1 .i64 x1.2.2.2.1 1),x1.1.2.2.1,j.1,x1.1.2.2.2.2.1,x1.1.2.2.2.2.2.1,h.1),1)else(J2Y (x1.1.2.2.2.2.2.1,x1.2)).bind λv=>some ((x1.1.1,J1P x1.1.2.1 (J1 .i64 x1.2.2.2.1 1),x1.1.2.2.1,j.1,x1.1.2.2.2.2.1,v,h.1),0)else(J2Y (x1.1.2.2.2.2.2.1,x1.2)).bind λx=>some ((x1.1.1,J1P x1.1.2.1 (J1 .i64 x1.2.2.2.1 1),x1.1.2.2.1,j.1,x1.1.2.2.2.2.1,x,h.1),0)else(J0G (x1.1.2.2.2.1,x1.2)).bind λe=>if neI e.2 0 then some (x1.1,e.2)else(J2V (x1.1.2.2.2.2.2.2,x1.2)).bind λg=>if neI g.2 0 then some ((x1.1.1,J1P x1.1.2.1 (J1 .i64 x1.2.2.2.1 1),x1.1.2.2.1,e.1,x1.1.2.2.2.2),g.2)else(JN x1.2).bind λq=>if q then if geI x1.2.2.2.2.2.2.2.1.1 x1.1.1 then some ((x1.1.1,J1P x1.1.2.1 (J1 .i64 x1.2.2.2.1 1),x1.1.2.2.1,e.1,x1.1.2.2.2.2.1,x1.1.2.2.2.2.2.1,g.1),1)else(J2Y (x1.1.2.2.2.2.2.1,x1.2)).bind λr=>some ((x1.1.1,J1P x1.1.2.1 (J1 .i64 x1.2.2.2.1 1),x1.1.2.2.1,e.1,x1.1.2.2.2.2.1,r,g.1),0)else(J2Y (x1.1.2.2.2.2.2.1,x1.2)).bind λy=>some ((x1.1.1,J1P x1.1.2.1 (J1 .i64 x1.2.2.2.1 1),x1.1.2.2.1,e.1,x1.1.2.2.2.2.1,y,g.1),0)
def JcF:JO9->Option ((JO9)⊕(Js0)):=fun(g,j,k,e,h)=>if ltI g (J0 e.2.2.2.1)then(idx e.2.2.2.1 g).bind λr=>if gtI r.2.2.1 0 then(idx e.2.2.2.1 g).bind λo=>(Jy 80 h [o]).bind λq=>some (.inl (J1 .i64 g 1,j,k,e,q))else some (.inl (J1 .i64 g 1,j,k,e,h))else Option.map .inr ((J8S (j,h)).bind λn=>if neI n.2 0 then some ((0,0,0,[],[],[],[]),n.2)else some ((e.1,e.2.1,e.2.2.1,h,n.1,e.2.2.2.2.2.1,e.2.2.2.2.2.2),0))
def JcE:JOS->Option ((JOS)⊕(Js0)):=fun(g,e,j,h)=>if ltI g (J0 e.2.1)then(idx e.2.1 g).bind λo=>if leI o.1 h.2.2.1 then some (.inl (J1 .i64 g 1,e,j,h))else(idx e.2.1 g).bind λn=>(J9X (h,n)).bind λk=>if neI k.2 0 then some (.inr ((0,0,0,[],[],[],[]),k.2))else some (.inl (J1 .i64 g 1,e,j,k.1))else Option.map .inr (Jf (JcF) (0,e,j,h,[]))
def J72(x1:J73):Option (Js0):=(J0i x1.1).bind λg=>if Jq g then some ((0,0,0,[],[],[],[]),26)else if ltI x1.2 1=false then if gtI x1.2 64 then some ((0,0,0,[],[],[],[]),1)else(J8V x1).bind λe=>if neI e.2 0 then some ((0,0,0,[],[],[],[]),e.2)else Jf (JcE) (0,x1.1,(0,0,0,[],[],[],[]),e.1)else some ((0,0,0,[],[],[],[]),1)
def Jg1:JOx->Option ((JOx)⊕(J1R)):=fun(e,n,g,k,j,h)=>if ltI e (J0 g.2.2.2.1)then(idx g.2.2.2.1 e).bind λr=>if eqI r.2.1 3 then some (.inl (J1 .i64 e 1,n,g,k,j,h))else(idx g.2.2.2.1 e).bind λq=>(J1h (h,0,4,q.1,0,0,0,(0,0,(false,[]),false,[]),[])).bind λo=>if neI o.2.2 0 then some (.inr ((0,0,(0,[],0),(0,[],0),([],[]),[],[],[]),o.2.2))else some (.inl (J1 .i64 e 1,n,g,k,j,o.1))else some (.inr (h,0))
def J94(x1:J07×J1W×Int):Option (J1R):=(J8z x1.2.2).bind λe=>if neI e.2 0 then some ((0,0,(0,[],0),(0,[],0),([],[]),[],[],[]),1)else(JL (x1.2.1.1,x1.2.1.2.1,x1.1,e.1,(x1.2.1.2.2.2.2.1,[]),x1.2.1.2.2.2.1,x1.2.1.2.2.2.2.2.2,x1.2.1.2.2.2.2.2.1)).bind λg=>if Jq g then some ((0,0,(0,[],0),(0,[],0),([],[]),[],[],[]),15)else Jf (Jg1) (0,x1.1,x1.2.1,(0,0,(0,[],0),(0,[],0),([],[]),[],[],[]),e.1,x1.2.1.1,x1.2.1.2.1,x1.1,e.1,(x1.2.1.2.2.2.2.1,[]),x1.2.1.2.2.2.1,x1.2.1.2.2.2.2.2.2,x1.2.1.2.2.2.2.2.1)
def Ja1(x1:JIm):Option (J3z):=(JaF x1.2.1).bind λe=>if neI e.2 0 then some (((0,0,(0,[],0),(0,[],0),([],[]),[],[],[]),[],0,[],false,[]),e.2)else(J72 (e.1,x1.2.2.1)).bind λg=>if neI g.2 0 then some (((0,0,(0,[],0),(0,[],0),([],[]),[],[],[]),[],0,[],false,[]),g.2)else(J94 (e.1,g.1,x1.2.2.2)).bind λh=>if neI h.2 0 then some (((0,0,(0,[],0),(0,[],0),([],[]),[],[],[]),[],0,[],false,[]),h.2)else some ((h.1,x1.1),0)
def J9U(x1:JIm):Option (J3z):=(Ja1 x1).bind λe=>some e
def J7n:TQ1->Option ((TQ1)⊕(TQ3)):=fun(k,h,G,H,J,F,D,C,E,I,n,B,x,y,z,A,v,w,q,r,o,g,j,L,K,M,e)=>if ltI h (J0 g)then(inb (List.length g) h).bind λ_=>(lat g (Int.toNat h)).bind λ_=>some (.inl (k,J1 .i64 h 1,G,H,J,F,D,C,E,I,n,B,x,y,z,A,v,w,q,r,o,J0w g (Int.toNat h) 0,j,L,K,M,e))else Option.map .inr (if neI k 0 then(J2L k).bind λN=>some (N,G,H,J,F,D,C,E,I,n,B,x,y,z,A,v,w,q,r,true,g,j)else(J2L 0).bind λO=>some (O,e.1.1,e.1.2.1,e.1.2.2.1.1,e.1.2.2.1.2.1,e.1.2.2.1.2.2,e.1.2.2.2.1.1,e.1.2.2.2.1.2.1,e.1.2.2.2.1.2.2,e.1.2.2.2.2.1.1,e.1.2.2.2.2.1.2,e.1.2.2.2.2.2.1,e.1.2.2.2.2.2.2.1,e.1.2.2.2.2.2.2.2,e.2.1,e.2.2.1,e.2.2.2.1,e.2.2.2.2.1,e.2.2.2.2.2,o,g,j))
def J3V(x1:TQ4):Option (TQ3):=(J99 (((x1.2.1,x1.2.2.1,(x1.2.2.2.1,x1.2.2.2.2.1,x1.2.2.2.2.2.1),(x1.2.2.2.2.2.2.1,x1.2.2.2.2.2.2.2.1,x1.2.2.2.2.2.2.2.2.1),(x1.2.2.2.2.2.2.2.2.2.1,x1.2.2.2.2.2.2.2.2.2.2.1),x1.2.2.2.2.2.2.2.2.2.2.2.1,x1.2.2.2.2.2.2.2.2.2.2.2.2.1,x1.2.2.2.2.2.2.2.2.2.2.2.2.2.1),x1.2.2.2.2.2.2.2.2.2.2.2.2.2.2.1,x1.2.2.2.2.2.2.2.2.2.2.2.2.2.2.2.1,x1.2.2.2.2.2.2.2.2.2.2.2.2.2.2.2.2.1,x1.2.2.2.2.2.2.2.2.2.2.2.2.2.2.2.2.2.1,x1.2.2.2.2.2.2.2.2.2.2.2.2.2.2.2.2.2.2.1),x1.1.2.2.2.1,x1.1.2.2.1,x1.1.2.2.2.2.1)).bind λe=>(J9U (e.1,e.2,x1.2.1,x1.2.2.2.2.2.2.1)).bind λg=>Jf (J7n) (g.2,0,x1.2.1,x1.2.2.1,x1.2.2.2.1,x1.2.2.2.2.1,x1.2.2.2.2.2.1,x1.2.2.2.2.2.2.1,x1.2.2.2.2.2.2.2.1,x1.2.2.2.2.2.2.2.2.1,x1.2.2.2.2.2.2.2.2.2.1,x1.2.2.2.2.2.2.2.2.2.2.1,x1.2.2.2.2.2.2.2.2.2.2.2.1,x1.2.2.2.2.2.2.2.2.2.2.2.2.1,x1.2.2.2.2.2.2.2.2.2.2.2.2.2.1,x1.2.2.2.2.2.2.2.2.2.2.2.2.2.2.1,x1.2.2.2.2.2.2.2.2.2.2.2.2.2.2.2.1,x1.2.2.2.2.2.2.2.2.2.2.2.2.2.2.2.2.1,x1.2.2.2.2.2.2.2.2.2.2.2.2.2.2.2.2.2.1,x1.2.2.2.2.2.2.2.2.2.2.2.2.2.2.2.2.2.2.1,x1.2.2.2.2.2.2.2.2.2.2.2.2.2.2.2.2.2.2.2.1,x1.2.2.2.2.2.2.2.2.2.2.2.2.2.2.2.2.2.2.2.2.1,x1.2.2.2.2.2.2.2.2.2.2.2.2.2.2.2.2.2.2.2.2.2,x1.1,(0,0,0,(false,[]),0),e.1,g.1)
def J1s(x1:TQ2):Option (TQ3):=if eqI x1.2.1 0 then(J2L x1.2.1).bind λg=>some (g,x1.1.1.1,x1.1.1.2.1,x1.1.1.2.2.1.1,x1.1.1.2.2.1.2.1,x1.1.1.2.2.1.2.2,x1.1.1.2.2.2.1.1,x1.1.1.2.2.2.1.2.1,x1.1.1.2.2.2.1.2.2,x1.1.1.2.2.2.2.1.1,x1.1.1.2.2.2.2.1.2,x1.1.1.2.2.2.2.2.1,x1.1.1.2.2.2.2.2.2.1,x1.1.1.2.2.2.2.2.2.2,x1.1.2.1,x1.1.2.2.1,x1.1.2.2.2.1,x1.1.2.2.2.2.1,x1.1.2.2.2.2.2,x1.2.2.2.2.2.2.2.2.2.2.2.2.2.2.2.2.2.2.2.2)else(J2L x1.2.1).bind λe=>some (e,x1.2.2)
def J48(x1:TQ4):Option (TQ3):=if eqI x1.1.1 1 then(J8T ((x1.2.1,x1.2.2.1,(x1.2.2.2.1,x1.2.2.2.2.1,x1.2.2.2.2.2.1),(x1.2.2.2.2.2.2.1,x1.2.2.2.2.2.2.2.1,x1.2.2.2.2.2.2.2.2.1),(x1.2.2.2.2.2.2.2.2.2.1,x1.2.2.2.2.2.2.2.2.2.2.1),x1.2.2.2.2.2.2.2.2.2.2.2.1,x1.2.2.2.2.2.2.2.2.2.2.2.2.1,x1.2.2.2.2.2.2.2.2.2.2.2.2.2.1),x1.2.2.2.2.2.2.2.2.2.2.2.2.2.2.1,x1.2.2.2.2.2.2.2.2.2.2.2.2.2.2.2.1,x1.2.2.2.2.2.2.2.2.2.2.2.2.2.2.2.2.1,x1.2.2.2.2.2.2.2.2.2.2.2.2.2.2.2.2.2.1,x1.2.2.2.2.2.2.2.2.2.2.2.2.2.2.2.2.2.2.1)).bind λg=>if eqI g.2.2 0 then(Jy 8 x1.2.2.2.2.2.2.2.2.2.2.2.2.2.2.2.2.2.2.2.2.1 [g.2.1]).bind λB=>(J1s (g.1,g.2.2,x1.2.1,x1.2.2.1,x1.2.2.2.1,x1.2.2.2.2.1,x1.2.2.2.2.2.1,x1.2.2.2.2.2.2.1,x1.2.2.2.2.2.2.2.1,x1.2.2.2.2.2.2.2.2.1,x1.2.2.2.2.2.2.2.2.2.1,x1.2.2.2.2.2.2.2.2.2.2.1,x1.2.2.2.2.2.2.2.2.2.2.2.1,x1.2.2.2.2.2.2.2.2.2.2.2.2.1,x1.2.2.2.2.2.2.2.2.2.2.2.2.2.1,x1.2.2.2.2.2.2.2.2.2.2.2.2.2.2.1,x1.2.2.2.2.2.2.2.2.2.2.2.2.2.2.2.1,x1.2.2.2.2.2.2.2.2.2.2.2.2.2.2.2.2.1,x1.2.2.2.2.2.2.2.2.2.2.2.2.2.2.2.2.2.1,x1.2.2.2.2.2.2.2.2.2.2.2.2.2.2.2.2.2.2.1,x1.2.2.2.2.2.2.2.2.2.2.2.2.2.2.2.2.2.2.2.1,B,x1.2.2.2.2.2.2.2.2.2.2.2.2.2.2.2.2.2.2.2.2.2)).bind λj=>some ((j.1.1,g.2.1,j.1.2.2),j.2)else(J1s (g.1,g.2.2,x1.2)).bind λk=>some ((k.1.1,g.2.1,k.1.2.2),k.2)else if eqI x1.1.1 2 then(J4A x1).bind λA=>some A else if eqI x1.1.1 3 then(J8Y (((x1.2.1,x1.2.2.1,(x1.2.2.2.1,x1.2.2.2.2.1,x1.2.2.2.2.2.1),(x1.2.2.2.2.2.2.1,x1.2.2.2.2.2.2.2.1,x1.2.2.2.2.2.2.2.2.1),(x1.2.2.2.2.2.2.2.2.2.1,x1.2.2.2.2.2.2.2.2.2.2.1),x1.2.2.2.2.2.2.2.2.2.2.2.1,x1.2.2.2.2.2.2.2.2.2.2.2.2.1,x1.2.2.2.2.2.2.2.2.2.2.2.2.2.1),x1.2.2.2.2.2.2.2.2.2.2.2.2.2.2.1,x1.2.2.2.2.2.2.2.2.2.2.2.2.2.2.2.1,x1.2.2.2.2.2.2.2.2.2.2.2.2.2.2.2.2.1,x1.2.2.2.2.2.2.2.2.2.2.2.2.2.2.2.2.2.1,x1.2.2.2.2.2.2.2.2.2.2.2.2.2.2.2.2.2.2.1),x1.1.2.2.1)).bind λn=>(J1s (n.1,n.2,x1.2)).bind λC=>some C else if eqI x1.1.1 4 then(J5C ((x1.2.1,x1.2.2.1,(x1.2.2.2.1,x1.2.2.2.2.1,x1.2.2.2.2.2.1),(x1.2.2.2.2.2.2.1,x1.2.2.2.2.2.2.2.1,x1.2.2.2.2.2.2.2.2.1),(x1.2.2.2.2.2.2.2.2.2.1,x1.2.2.2.2.2.2.2.2.2.2.1),x1.2.2.2.2.2.2.2.2.2.2.2.1,x1.2.2.2.2.2.2.2.2.2.2.2.2.1,x1.2.2.2.2.2.2.2.2.2.2.2.2.2.1),x1.2.2.2.2.2.2.2.2.2.2.2.2.2.2.1,x1.2.2.2.2.2.2.2.2.2.2.2.2.2.2.2.1,x1.2.2.2.2.2.2.2.2.2.2.2.2.2.2.2.2.1,x1.2.2.2.2.2.2.2.2.2.2.2.2.2.2.2.2.2.1,x1.2.2.2.2.2.2.2.2.2.2.2.2.2.2.2.2.2.2.1)).bind λq=>(J1s (q.1,q.2.2,x1.2)).bind λr=>some r else if eqI x1.1.1 5 then(J3X (x1.2.2.2.1,x1.2.2.2.2.1,x1.2.2.2.2.2.1)).bind λx=>(J2G ((x1.2.2.2.1,x1.2.2.2.2.1,x1.2.2.2.2.2.1),x)).bind λe=>if eqI e.2 0 then(J2L e.2).bind λy=>some (y,x1.2.1,x1.2.2.1,e.1.1,e.1.2.1,e.1.2.2,x1.2.2.2.2.2.2)else(J2L e.2).bind λv=>some (v,x1.2)else if eqI x1.1.1 6 then(J3V x1).bind λo=>some o else if eqI x1.1.1 7 then(Jas ((x1.2.1,x1.2.2.1,(x1.2.2.2.1,x1.2.2.2.2.1,x1.2.2.2.2.2.1),(x1.2.2.2.2.2.2.1,x1.2.2.2.2.2.2.2.1,x1.2.2.2.2.2.2.2.2.1),(x1.2.2.2.2.2.2.2.2.2.1,x1.2.2.2.2.2.2.2.2.2.2.1),x1.2.2.2.2.2.2.2.2.2.2.2.1,x1.2.2.2.2.2.2.2.2.2.2.2.2.1,x1.2.2.2.2.2.2.2.2.2.2.2.2.2.1),x1.2.2.2.2.2.2.2.2.2.2.2.2.2.2.1,x1.2.2.2.2.2.2.2.2.2.2.2.2.2.2.2.1,x1.2.2.2.2.2.2.2.2.2.2.2.2.2.2.2.2.1,x1.2.2.2.2.2.2.2.2.2.2.2.2.2.2.2.2.2.1,x1.2.2.2.2.2.2.2.2.2.2.2.2.2.2.2.2.2.2.1)).bind λh=>(J1s (h.1,h.2.2,x1.2)).bind λw=>some w else(Jx 1).bind λz=>some (z,x1.2)
def Jl4:TQ0->Option ((TQ0)⊕(JO2)):=fun(I,H,L,M,K,E,C,D,F,G,n,o,x,z,B,r,v,g,j,y,w,q,h,k,J,A)=>if ltI H (J0 I)then if ltI H 1000 then if Jq J then(idx I H).bind λN=>(J48 (N,C,D,F,G,n,o,x,z,B,r,v,g,j,y,w,q,h,k,J,K,E)).bind λe=>(Jy 56 A [e.1]).bind λO=>some (.inl (I,J1 .i64 H 1,L,M,e.2.2.2.2.2.2.2.2.2.2.2.2.2.2.2.2.2.2.2.2.1,e.2.2.2.2.2.2.2.2.2.2.2.2.2.2.2.2.2.2.2.2.2,e.2.1,e.2.2.1,e.2.2.2.1,e.2.2.2.2.1,e.2.2.2.2.2.1,e.2.2.2.2.2.2.1,e.2.2.2.2.2.2.2.1,e.2.2.2.2.2.2.2.2.1,e.2.2.2.2.2.2.2.2.2.1,e.2.2.2.2.2.2.2.2.2.2.1,e.2.2.2.2.2.2.2.2.2.2.2.1,e.2.2.2.2.2.2.2.2.2.2.2.2.1,e.2.2.2.2.2.2.2.2.2.2.2.2.2.1,e.2.2.2.2.2.2.2.2.2.2.2.2.2.2.1,e.2.2.2.2.2.2.2.2.2.2.2.2.2.2.2.1,e.2.2.2.2.2.2.2.2.2.2.2.2.2.2.2.2.1,e.2.2.2.2.2.2.2.2.2.2.2.2.2.2.2.2.2.1,e.2.2.2.2.2.2.2.2.2.2.2.2.2.2.2.2.2.2.1,e.2.2.2.2.2.2.2.2.2.2.2.2.2.2.2.2.2.2.2.1,O))else some (.inr (((C,D,(F,G,n),(o,x,z),(B,r),v,g,j),y,w,q,h,k),A,E))else some (.inr (((C,D,(F,G,n),(o,x,z),(B,r),v,g,j),y,w,q,h,k),A,E))else some (.inr (((C,D,(F,G,n),(o,x,z),(B,r),v,g,j),y,w,q,h,k),A,E))
def JbF(x1:Jw×(List J4C)):Option (JO2):=Jf (Jl4) (x1.2,0,x1.1,((0,0,(0,[],0),(0,[],0),([],[]),[],[],[]),[],0,[],false,[]),[],[],x1.1.1.1,x1.1.1.2.1,x1.1.1.2.2.1.1,x1.1.1.2.2.1.2.1,x1.1.1.2.2.1.2.2,x1.1.1.2.2.2.1.1,x1.1.1.2.2.2.1.2.1,x1.1.1.2.2.2.1.2.2,x1.1.1.2.2.2.2.1.1,x1.1.1.2.2.2.2.1.2,x1.1.1.2.2.2.2.2.1,x1.1.1.2.2.2.2.2.2.1,x1.1.1.2.2.2.2.2.2.2,x1.1.2.1,x1.1.2.2.1,x1.1.2.2.2.1,x1.1.2.2.2.2.1,x1.1.2.2.2.2.2,false,[])
def J4z(x1:JIr):Option (Jw×Jz):=(Jn (4,x1.2.2)).bind λe=>(Jn (3,e.2)).bind λg=>(JbM (J1 .i64 1 e.1,J1 .i64 1 g.1)).bind λk=>(J4a (J1 .i64 1 e.1,x1.1,x1.2.1,g.2)).bind λh=>(JbF (k.1,h.1)).bind λj=>some (j.1,h.2)
def J5d(x1:JIr):Option (J9×Jz):=(J4z x1).bind λe=>some (e.1.1,e.2)
def JcU(x1:JaY):Option (Int×J07×Jz):=(J5d (x1.1,true,x1.2)).bind λe=>(J3X e.1.2.2.1).bind λg=>(J2G (e.1.2.2.1,g)).bind λh=>some (e.1.1,h.1,e.2)
def J0U(x1:JL3):Option (Int):=if ltI x1.1.2.2.2.2.2.2.1.1 x1.2.2.2.2.2.2.2.1.1=false then if eqI x1.1.2.2.2.2.2.2.1.1 x1.2.2.2.2.2.2.2.1.1 then if ltI x1.1.1 x1.2.1 then some (-1)else if eqI x1.1.2.2.2.2.2.2.1.1 x1.2.2.2.2.2.2.2.1.1 then if eqI x1.1.1 x1.2.1 then some 0 else some 1 else some 1 else if eqI x1.1.2.2.2.2.2.2.1.1 x1.2.2.2.2.2.2.2.1.1 then if eqI x1.1.1 x1.2.1 then some 0 else some 1 else some 1 else some (-1)
def J9j:(List T_api_Entry)×Int×T_api_Entry->Option (((List T_api_Entry)×Int×T_api_Entry)⊕((List T_api_Entry)×Bool)):=fun(e,g,h)=>if ltI g (J0 e)then(idx e g).bind λL=>(J0U (L,h)).bind λQ=>if ltI Q 0 then some (.inl (e,J1 .i64 g 1,h))else Option.map .inr (if ltI g (J0 e)then(idx e g).bind λN=>(J0U (N,h)).bind λO=>if eqI O 0 then(idx e g).bind λK=>some (e,eqT J4 K h)else(J0z e none (some g)).bind λM=>(J1g 128 M).bind λP=>(Jy 128 P [h]).bind λk=>(J0z e (some g) none).bind λH=>(Jy 128 k H).bind λD=>some (D,true)else(J0z e none (some g)).bind λn=>(J1g 128 n).bind λB=>(Jy 128 B [h]).bind λr=>(J0z e (some g) none).bind λC=>(Jy 128 r C).bind λx=>some (x,true))else Option.map .inr (if ltI g (J0 e)then(idx e g).bind λy=>(J0U (y,h)).bind λA=>if eqI A 0 then(idx e g).bind λz=>some (e,eqT J4 z h)else(J0z e none (some g)).bind λo=>(J1g 128 o).bind λG=>(Jy 128 G [h]).bind λw=>(J0z e (some g) none).bind λq=>(Jy 128 w q).bind λj=>some (j,true)else(J0z e none (some g)).bind λv=>(J1g 128 v).bind λF=>(Jy 128 F [h]).bind λJ=>(J0z e (some g) none).bind λI=>(Jy 128 J I).bind λE=>some (E,true))
def J3O(x1:(List T_api_Entry)×T_api_Entry):Option ((List T_api_Entry)×Bool):=Jf (J9j) (x1.1,0,x1.2)
def J27(x1:Int×Int×T_api_Row):Option (Bool):=if geI x1.1 1 then if leI x1.1 x1.2.1 then if leI x1.2.1 1099511627776 then if geI x1.2.2.1 0 then if leI x1.2.2.1 x1.2.2.2.1 then if ltI x1.2.2.2.1 64 then if geI x1.2.2.2.2 0 then some (leI x1.2.2.2.2 8)else some false else some false else some false else some false else some false else some false else some false
def J7g(z3:Int×Jm):Option ((Int×Jm)⊕Bool):=if ltI z3.1 (J0 z3.2.2.2.2.2.2)then(idx z3.2.2.2.2.2.2 z3.1).bind λe=>(J02 e).bind λq=>if Jq q=false then(JN e).bind λn=>if Jq n=false then if ltI e.1 z3.2.1=false then if gtI e.1 z3.2.2.1=false then if ltI e.2.2.2.2.2.2.1.1 z3.2.2.2.1=false then if gtI e.2.2.2.2.2.2.1.1 z3.2.2.2.2.1 then some (.inr false)else if gtI z3.1 0 then(idx z3.2.2.2.2.2.2 (JG .i64 z3.1 1)).bind λk=>(J0U (k,e)).bind λr=>if geI r 0 then some (.inr false)else if gtI z3.1 0 then(idx z3.2.2.2.2.2.2 (JG .i64 z3.1 1)).bind λo=>if eqI o.2.2.2.2.2.2.1.1 e.2.2.2.2.2.2.1.1 then(idx z3.2.2.2.2.2.2 (JG .i64 z3.1 1)).bind λg=>if neI e.2.2.2.2.1 g.1 then some (.inr false)else some (.inl (J1 .i64 z3.1 1,z3.2))else if geI e.2.2.2.2.1 z3.2.1 then some (.inr false)else some (.inl (J1 .i64 z3.1 1,z3.2))else if geI e.2.2.2.2.1 z3.2.1 then some (.inr false)else some (.inl (J1 .i64 z3.1 1,z3.2))else if gtI z3.1 0 then(idx z3.2.2.2.2.2.2 (JG .i64 z3.1 1)).bind λj=>if eqI j.2.2.2.2.2.2.1.1 e.2.2.2.2.2.2.1.1 then(idx z3.2.2.2.2.2.2 (JG .i64 z3.1 1)).bind λh=>if neI e.2.2.2.2.1 h.1 then some (.inr false)else some (.inl (J1 .i64 z3.1 1,z3.2))else if geI e.2.2.2.2.1 z3.2.1 then some (.inr false)else some (.inl (J1 .i64 z3.1 1,z3.2))else if geI e.2.2.2.2.1 z3.2.1 then some (.inr false)else some (.inl (J1 .i64 z3.1 1,z3.2))else some (.inr false)else some (.inr false)else some (.inr false)else some (.inr false)else some (.inr false)else some (.inr true)
def J10(x1:Jm):Option (Bool):=(J27 (x1.1,x1.2.1,x1.2.2.1,x1.2.2.2.1,x1.2.2.2.2.1)).bind λe=>if Jq e=false then if gtI (J0 x1.2.2.2.2.2) 4096 then some false else Jf (J7g) (0,x1)else some false
def Jh3:JNS->Option ((JNS)⊕((JL7)⊕(JbE))):=fun(k,v,n,j,q,w,r,h,o,e,g)=>if ltI h (J0 e.2.2.2.2.2)then if w=false then(idx e.2.2.2.2.2 h).bind λx=>if eqI x.1 g.1 then(idx e.2.2.2.2.2 h).bind λz=>some (.inl (k,v,n,j,q,Jq (eqT J4 z g),r,J1 .i64 h 1,o,e,g))else some (.inl (k,v,n,j,q,false,r,J1 .i64 h 1,o,e,g))else some (.inl (k,v,n,j,q,true,r,J1 .i64 h 1,o,e,g))else Option.map .inr ((J3O (e.2.2.2.2.2,g)).bind λy=>some (.inl (k,v,n,j,q,w,J1 .i64 r 1,o,e.1,e.2.1,e.2.2.1,e.2.2.2.1,e.2.2.2.2.1,y.1)))
def JiU:JL7->Option ((JL7)⊕(JbE)):=fun(g,o,q,k,n,j,h,r,e)=>if ltI h (J0 g)then(idx g h).bind λv=>(JN v).bind λx=>if Jq x=false then if ltI v.2.2.2.2.2.2.1.1 k=false then if gtI v.2.2.2.2.2.2.1.1 n=false then if ltI v.1 o=false then if gtI v.1 q then some (.inl (g,o,q,k,n,j,J1 .i64 h 1,r,e))else Jf (Jh3) (g,o,q,k,n,j,h,0,r,e,v)else some (.inl (g,o,q,k,n,j,J1 .i64 h 1,r,e))else some (.inl (g,o,q,k,n,j,J1 .i64 h 1,r,e))else some (.inl (g,o,q,k,n,j,J1 .i64 h 1,r,e))else some (.inl (g,o,q,k,n,j,J1 .i64 h 1,r,e))else Option.map .inr (if j then some ((0,0,0,0,0,[]),41)else if gtI (J0 e.2.2.2.2.2) 4096 then some ((0,0,0,0,0,[]),21)else(J10 e).bind λw=>if Jq w then some ((0,0,0,0,0,[]),13)else some (e,0))
def Jhg:JNq->Option ((JNq)⊕(JbE)):=fun(e,g,k,n,h,o,j,q)=>if ltI j (J0 e)then(idx e j).bind λr=>(J02 r).bind λv=>if Jq v then some (.inr ((0,0,0,0,0,[]),12))else some (.inl (e,g,k,n,h,o,J1 .i64 j 1,q))else Option.map .inr (Jf (JiU) (e,g,k,n,h,false,0,q,g,k,n,h,o,[]))
def J69(x1:JOg):Option (JbE):=(J27 x1.2).bind λe=>if Jq e then some ((0,0,0,0,0,[]),1)else Jf (Jhg) (x1.1,x1.2.1,x1.2.2.1,x1.2.2.2.1,x1.2.2.2.2.1,x1.2.2.2.2.2,0,0,0,0,0,0,[])
def J8X(x1:Jz):Option (JQc):=(JcU (30,x1)).bind λj=>(Jn (3,j.2.2)).bind λe=>(Jn (4,e.2)).bind λk=>(Jn (15,k.2)).bind λg=>(Jn (15,g.2)).bind λh=>(Jn (3,h.2)).bind λo=>(J69 (j.2.1.2.1,1,J1 .i64 1 g.1,e.1,J1 .i64 e.1 k.1,o.1)).bind λw=>(Jn (3,o.2)).bind λq=>(J69 (j.2.1.2.1,J1 .i64 (J1 .i64 1 g.1) 1,J1 .i64 (J1 .i64 (J1 .i64 1 g.1) 1) h.1,e.1,J1 .i64 e.1 k.1,q.1)).bind λr=>(Jn (9,q.2)).bind λn=>(J69 (j.2.1.2.1,J1 .i64 (J1 .i64 (J1 .i64 (J1 .i64 1 g.1) 1) h.1) 1,J1 .i64 (J1 .i64 (J1 .i64 (J1 .i64 1 g.1) 1) h.1) 20,e.1,J1 .i64 e.1 k.1,n.1)).bind λv=>some (w.1,r.1,v.1,n.2)
def J2M(x:List (List T_api_Entry)):Option (List T_api_Entry):=JLR x
def J1r(x1:JjR):Option (JbE):=(J1Z x1.1).bind λg=>if Jq g=false then(J1Z x1.2).bind λe=>if Jq e then some ((0,0,0,0,0,[]),40)else if neI x1.1.1 x1.2.1=false then if neI x1.1.2.1 x1.2.2.1=false then if neI x1.1.2.2.2.2.1 x1.2.2.2.2.2.1=false then if neI x1.2.2.2.1 (J1 .i64 x1.1.2.2.2.1 1)then some ((0,0,0,0,0,[]),41)else if gtI (J1 .i64 (J0 x1.1.2.2.2.2.2) (J0 x1.2.2.2.2.2.2)) 4096 then some ((0,0,0,0,0,[]),21)else(J2M [x1.1.2.2.2.2.2,x1.2.2.2.2.2.2]).bind λh=>some ((x1.1.1,x1.1.2.1,x1.1.2.2.1,x1.2.2.2.2.1,x1.1.2.2.2.2.1,h),0)else some ((0,0,0,0,0,[]),41)else some ((0,0,0,0,0,[]),41)else some ((0,0,0,0,0,[]),41)else some ((0,0,0,0,0,[]),40)
def J0g(x:List T_api_Entry):Option (List T_api_Entry):=J1g 128 x
def J6k(x1:JjS):Option (Bool×Int):=some (geI x1.1.2.2.2.2.2.2.1.1 x1.2,x1.2)
def J32(z2:(List T_api_Entry)×T_api_Row):Option (((List T_api_Entry)×T_api_Row)⊕JI):=if ltI z2.2.2.1 z2.2.1 then(idx z2.1 z2.2.2.1).bind λg=>(J6k (g,z2.2.2.2)).bind λe=>if e.1 then some (.inr (z2.2.2.1,e.2))else some (.inl (z2.1,z2.2.1,J1 .i64 z2.2.2.1 1,e.2))else some (.inr ((-1),z2.2.2.2))
def J1d(x1:Jvl):Option (JI):=Jf (J32) (x1.1,J0 x1.1,0,x1.2)
def J1u(x1:JbE):Option (JL9):=(J1Z x1.1).bind λo=>if Jq o then some ((0,0,0,0,0,[]),(0,0,0,0,0,[]),40)else if leI x1.2 x1.1.2.2.1=false then if gtI x1.2 x1.1.2.2.2.1 then some ((0,0,0,0,0,[]),(0,0,0,0,0,[]),1)else(J1d (x1.1.2.2.2.2.2,x1.2)).bind λe=>if ltI e.1 0 then(J0z x1.1.2.2.2.2.2 none (some (J0 x1.1.2.2.2.2.2))).bind λr=>(J0g r).bind λv=>(J0z x1.1.2.2.2.2.2 (some (J0 x1.1.2.2.2.2.2)) none).bind λk=>(J0g k).bind λj=>some ((x1.1.1,x1.1.2.1,x1.1.2.2.1,JG .i64 e.2 1,x1.1.2.2.2.2.1,v),(x1.1.1,x1.1.2.1,e.2,x1.1.2.2.2.1,x1.1.2.2.2.2.1,j),0)else(J0z x1.1.2.2.2.2.2 none (some e.1)).bind λq=>(J0g q).bind λn=>(J0z x1.1.2.2.2.2.2 (some e.1) none).bind λg=>(J0g g).bind λh=>some ((x1.1.1,x1.1.2.1,x1.1.2.2.1,JG .i64 e.2 1,x1.1.2.2.2.2.1,n),(x1.1.1,x1.1.2.1,e.2,x1.1.2.2.2.1,x1.1.2.2.2.2.1,h),0)else some ((0,0,0,0,0,[]),(0,0,0,0,0,[]),1)
def J9u:JOB->Option ((JOB)⊕Bool):=fun(g,h,e)=>if ltI e (J0 g)then(idx g e).bind λj=>(idx h e).bind λk=>if Jq (eqT J4 j k)then some (.inr false)else some (.inl (g,h,J1 .i64 e 1))else some (.inr true)
def J3F(x1:JNt):Option (Bool):=if neI (J0 x1.1) (J0 x1.2)then some false else Jf (J9u) (x1.1,x1.2,0)
def J3W(x1:JjR):Option (Bool):=if eqI x1.1.1 x1.2.1 then if eqI x1.1.2.1 x1.2.2.1 then if eqI x1.1.2.2.1 x1.2.2.2.1 then if eqI x1.1.2.2.2.1 x1.2.2.2.2.1 then if eqI x1.1.2.2.2.2.1 x1.2.2.2.2.2.1 then(J3F (x1.1.2.2.2.2.2,x1.2.2.2.2.2.2)).bind λe=>some e else some false else some false else some false else some false else some false
def J2B(x1:JjR):Option (JbE):=(J10 x1.1).bind λg=>if Jq g=false then(J10 x1.2).bind λe=>if Jq e then some ((0,0,0,0,0,[]),40)else if neI x1.1.1 x1.2.1=false then if neI x1.1.2.1 x1.2.2.1=false then if neI x1.1.2.2.2.2.1 x1.2.2.2.2.2.1=false then if neI x1.2.2.2.1 (J1 .i64 x1.1.2.2.2.1 1)then some ((0,0,0,0,0,[]),41)else if gtI (J1 .i64 (J0 x1.1.2.2.2.2.2) (J0 x1.2.2.2.2.2.2)) 4096 then some ((0,0,0,0,0,[]),21)else(J1g 128 x1.1.2.2.2.2.2).bind λh=>(Jy 128 h x1.2.2.2.2.2.2).bind λj=>some ((x1.1.1,x1.1.2.1,x1.1.2.2.1,x1.2.2.2.2.1,x1.1.2.2.2.2.1,j),0)else some ((0,0,0,0,0,[]),41)else some ((0,0,0,0,0,[]),41)else some ((0,0,0,0,0,[]),41)else some ((0,0,0,0,0,[]),40)
def Jeq:JO0->Option ((JO0)⊕(List T_api_Entry)):=fun(h,e,j,g)=>if ltI e (J0 g.2.2.2.2.2)then(idx g.2.2.2.2.2 e).bind λk=>(J3O (h,k)).bind λn=>some (.inl (n.1,J1 .i64 e 1,j,g))else some (.inr h)
def J83(x1:JjR):Option (List T_api_Entry):=(J1g 128 x1.1.2.2.2.2.2).bind λe=>Jf (Jeq) (e,0,x1)
def J1E(x1:JjR):Option (JbE):=(J10 x1.1).bind λh=>if Jq h=false then(J10 x1.2).bind λg=>if Jq g then some ((0,0,0,0,0,[]),40)else if neI x1.1.2.2.1 x1.2.2.2.1=false then if neI x1.1.2.2.2.1 x1.2.2.2.2.1=false then if neI x1.2.1 (J1 .i64 x1.1.2.1 1)then some ((0,0,0,0,0,[]),41)else(J83 x1).bind λe=>if gtI (J1 .i64 (J1P x1.1.2.2.2.2.1 x1.2.2.2.2.2.1) 1) 8=false then if gtI (J1 .i64 (J0 x1.1.2.2.2.2.2) (J0 x1.2.2.2.2.2.2)) 4096 then some ((0,0,0,0,0,[]),21)else(J10 (x1.1.1,x1.2.2.1,x1.1.2.2.1,x1.1.2.2.2.1,J1 .i64 (J1P x1.1.2.2.2.2.1 x1.2.2.2.2.2.1) 1,e)).bind λj=>if Jq j then some ((0,0,0,0,0,[]),13)else some ((x1.1.1,x1.2.2.1,x1.1.2.2.1,x1.1.2.2.2.1,J1 .i64 (J1P x1.1.2.2.2.2.1 x1.2.2.2.2.2.1) 1,e),0)else some ((0,0,0,0,0,[]),21)else some ((0,0,0,0,0,[]),41)else some ((0,0,0,0,0,[]),41)else some ((0,0,0,0,0,[]),40)
def Jgc:JNZ->Option ((JNZ)⊕(JL9)):=fun(z,g,e,B,x,w,y,A,v,C,j,n,q,h,k,r,o)=>if ltI g (J0 e.2.2.2.2.2)then(idx e.2.2.2.2.2 g).bind λH=>if ltI H.2.2.2.2.2.2.1.1 z then(idx e.2.2.2.2.2 g).bind λF=>(Jy 128 r [F]).bind λG=>some (.inl (z,J1 .i64 g 1,e,B,x,w,y,A,v,C,j,n,q,h,k,G,o))else(idx e.2.2.2.2.2 g).bind λD=>(Jy 128 o [D]).bind λE=>some (.inl (z,J1 .i64 g 1,e,B,x,w,y,A,v,C,j,n,q,h,k,r,E))else some (.inr ((x,w,y,A,v,r),(j,n,q,h,k,o),0))
def J1x(x1:JbE):Option (JL9):=(J10 x1.1).bind λe=>if Jq e then some ((0,0,0,0,0,[]),(0,0,0,0,0,[]),40)else if leI x1.2 x1.1.2.2.1=false then if gtI x1.2 x1.1.2.2.2.1 then some ((0,0,0,0,0,[]),(0,0,0,0,0,[]),1)else Jf (Jgc) (x1.2,0,x1.1,[],x1.1.1,x1.1.2.1,x1.1.2.2.1,JG .i64 x1.2 1,x1.1.2.2.2.2.1,[],x1.1.1,x1.1.2.1,x1.2,x1.1.2.2.2.1,x1.1.2.2.2.2.1,[],[])else some ((0,0,0,0,0,[]),(0,0,0,0,0,[]),1)
def J7i:JNR->Option ((JNR)⊕((JHN)⊕Bool)):=fun(y,g,e,q,o,h,x,w,v,r,k,j,n)=>if ltI h o then(idx q h).bind λB=>(idx g e).bind λD=>(J1u (D,B)).bind λz=>(idx g e).bind λF=>(J1x (F,B)).bind λA=>if neI z.2.2 A.2.2=false then(J3W (z.1,A.1)).bind λE=>if Jq E=false then(J3W (z.2.1,A.2.1)).bind λC=>if Jq C then Option.map .inr (some (.inr false))else some (.inl (y,g,e,q,o,J1 .i64 h 1,x,w,v,r,k,j,n))else Option.map .inr (some (.inr false))else Option.map .inr (some (.inr false))else some (.inr (.inl (y,g,J1 .i64 e 1,x,w,v,r,k,j,n)))
def J7z:JNY->Option ((JNY)⊕((JHN)⊕Bool)):=fun(j,e,g,h,q,r,x,v,n,w,k)=>if ltI h (J0 e)then(idx e g).bind λL=>(idx e h).bind λM=>(J0J (L,M)).bind λy=>(idx e g).bind λK=>(idx e h).bind λJ=>(J1E (K,J)).bind λz=>(idx e g).bind λI=>(idx e h).bind λE=>(J1r (I,E)).bind λB=>(idx e g).bind λF=>(idx e h).bind λG=>(J2B (F,G)).bind λA=>if neI y.2 z.2=false then(J3W (y.1,z.1)).bind λH=>if Jq H=false then if neI B.2 A.2=false then(J3W (B.1,A.1)).bind λD=>if Jq D then Option.map .inr (some (.inr false))else some (.inl (j,e,g,J1 .i64 h 1,q,r,x,v,n,w,k))else Option.map .inr (some (.inr false))else Option.map .inr (some (.inr false))else Option.map .inr (some (.inr false))else Option.map .inr ((idx e g).bind λC=>(Jn (5,r)).bind λo=>Jf (J7i) (j,e,g,[j,J1 .i64 C.2.2.1 o.1],J0 [j,J1 .i64 C.2.2.1 o.1],0,q,o.2,x,v,n,w,k))
def J7h(e:JHN):Option ((JHN)⊕Bool):=if ltI e.2.2.1 (J0 e.2.1)then Jf (J7z) (e.1,e.2.1,e.2.2.1,0,e.2.2.2)else some (.inr true)
def J3R(x1:(List Int)×Jm×Int):Option (Bool):=(J6M ()).bind λj=>if Jq j=false then if gtI (J0 x1.2.1.2.2.2.2.2) 60 then some (gtI (J0 x1.2.1.2.2.2.2.2) 60)else(J6o (x1.1,400)).bind λh=>(J8X h).bind λe=>(J1x (e.1,J1 .i64 e.1.2.2.1 1)).bind λg=>Jf (J7h) (x1.2.2,[e.1,e.2.1,e.2.2.1,g.1,g.2.1,x1.2.1],0,x1.2.1,e.2.2.2,e.1,e.2.1,e.2.2.1,g.1,g.2.1)else some (gtI (J0 x1.2.1.2.2.2.2.2) 60)
end
end Go.Am
end
section
namespace Go.Am
def Tot{ρ:Type}(o:Option ρ)(Q:ρ->Prop):Prop:= ∃r,o=some r/\Q r
section
variable {α β ρ σ τ:Type} {Q:ρ->Prop}
theorem Tot.bind{P:α->Prop}{o:Option α}{f:α->Option ρ}(h:Tot o P)(h2: ∀r,P r->Tot (f r) Q):Tot (o.bind f) Q:=by obtain⟨r,rfl,hq⟩:=h;exact h2 r hq
theorem Tot.some{r:ρ}(h:Q r):Tot (some r) Q:=⟨r,rfl,h⟩
theorem Tot.mono{P:ρ->Prop}{o:Option ρ}(h:Tot o P)(h2: ∀r,P r->Q r):Tot o Q:=by obtain⟨r,e,hq⟩:=h;exact⟨r,e,h2 r hq⟩
theorem Tot.map{P:α->Prop}{o:Option α}{f:α->ρ}(h:Tot o P)(h2: ∀r,P r->Q (f r)):Tot (Option.map f o) Q:=by obtain⟨r,rfl,hq⟩:=h;exact⟨f r,rfl,h2 r hq⟩
theorem Tot.get{o:Option ρ}{r:ρ}(h:Tot o Q)(e:o=Option.some r):Q r:=by obtain⟨r',e',h⟩:=h;rw[e]at e';injection e' with e';subst e';exact h
variable {u v:Option ρ}
theorem Tot.ite{c:Bool}(h1:c=true->Tot u Q)(h2:c=false->Tot v Q):Tot (if c=true then u else v) Q:=by
 cases c with
 |true=>exact h1 rfl
 |false=>exact h2 rfl
theorem Tot.itf{c:Bool}(h1:c=false->Tot u Q)(h2:c=true->Tot v Q):Tot (if c=false then u else v) Q:=by
 cases c with
 |true=>exact h2 rfl
 |false=>exact h1 rfl
theorem Tot.not{c:Bool}(h1:c=false->Tot u Q)(h2:c=true->Tot v Q):Tot (if Jq c=true then u else v) Q:=by
 cases c with
 |true=>exact h2 rfl
 |false=>exact h1 rfl
theorem Tot.nof{c:Bool}(h1:c=true->Tot u Q)(h2:c=false->Tot v Q):Tot (if Jq c=false then u else v) Q:=by
 cases c with
 |true=>exact h1 rfl
 |false=>exact h2 rfl
variable {a c:Int}
theorem J4c:ltI a c=true↔a<c:=by simp[ltI]
theorem J9v:gtI a c=true↔c<a:=by simp[gtI]
theorem J24:leI a c=true↔a<=c:=by simp[leI]
theorem J8a:geI a c=true↔c<=a:=by simp[geI]
theorem J81:eqI a c=true↔a=c:=by simp[eqI]
theorem Jd9:neI a c=true↔ ¬a=c:=by simp[neI]
theorem Tot.by{p:Prop}{x:Bool}(hp:x=true↔p)(h1:p->Tot u Q)(h2: ¬p->Tot v Q):Tot (if x=true then u else v) Q:=.ite (λh=>h1 (hp.1 h)) λh=>h2 λh3=>by rw[hp.2 h3]at h;cases h
theorem Tot.byf{p:Prop}{x:Bool}(hp:x=true↔p)(h1: ¬p->Tot u Q)(h2:p->Tot v Q):Tot (if x=false then u else v) Q:=.itf (λh=>h1 λh3=>by rw[hp.2 h3]at h;cases h) λh=>h2 (hp.1 h)
theorem Tot.lt(h1:a<c->Tot u Q)(h2: ¬a<c->Tot v Q):Tot (if ltI a c=true then u else v) Q:=.by J4c h1 h2
theorem Tot.gt(h1:c<a->Tot u Q)(h2: ¬c<a->Tot v Q):Tot (if gtI a c=true then u else v) Q:=.by J9v h1 h2
theorem Tot.le(h1:a<=c->Tot u Q)(h2: ¬a<=c->Tot v Q):Tot (if leI a c=true then u else v) Q:=.by J24 h1 h2
theorem Tot.ge(h1:c<=a->Tot u Q)(h2: ¬c<=a->Tot v Q):Tot (if geI a c=true then u else v) Q:=.by J8a h1 h2
theorem Tot.eq(h1:a=c->Tot u Q)(h2: ¬a=c->Tot v Q):Tot (if eqI a c=true then u else v) Q:=.by J81 h1 h2
theorem Tot.ne(h1: ¬a=c->Tot u Q)(h2:a=c->Tot v Q):Tot (if neI a c=true then u else v) Q:=.by Jd9 h1 (λh=>h2 (Decidable.of_not_not h))
theorem Tot.ltf(h1: ¬a<c->Tot u Q)(h2:a<c->Tot v Q):Tot (if ltI a c=false then u else v) Q:=.byf J4c h1 h2
theorem Tot.gtf(h1: ¬c<a->Tot u Q)(h2:c<a->Tot v Q):Tot (if gtI a c=false then u else v) Q:=.byf J9v h1 h2
theorem Tot.lef(h1: ¬a<=c->Tot u Q)(h2:a<=c->Tot v Q):Tot (if leI a c=false then u else v) Q:=.byf J24 h1 h2
theorem Tot.gef(h1: ¬c<=a->Tot u Q)(h2:c<=a->Tot v Q):Tot (if geI a c=false then u else v) Q:=.byf J8a h1 h2
theorem Tot.eqf(h1: ¬a=c->Tot u Q)(h2:a=c->Tot v Q):Tot (if eqI a c=false then u else v) Q:=.byf J81 h1 h2
theorem Tot.nef(h1:a=c->Tot u Q)(h2: ¬a=c->Tot v Q):Tot (if neI a c=false then u else v) Q:=.byf Jd9 (λh=>h1 (Decidable.of_not_not h)) h2
end
def Ty.fit(B S:Int):(t:Ty)->t.D->Prop
 | .b,_=>True
 | .i k,z=>k.min<=z/\z<=k.max
 | .s,z=>J0 (α:=UInt8) z<=S
 | .l t,z=>J0 (α:=t.D) z<=B/\ ∀x∈(z:List t.D),t.fit B S x
 | .pr a c,x=>a.fit B S x.1/\c.fit B S x.2
 | .ar n t,v=> ∀(i:Nat) (h:i<n),t.fit B S ((v:Vector t.D n)[i])
 | .u,_=>True
 | .f,_=>True
theorem Ty.fit.up{B S g e:Int}(h1:B<=g)(h2:S<=e): ∀{t:Ty} {x:t.D},t.fit B S x->t.fit g e x
 | .b,_,_=>trivial
 | .i _,_,h=>h
 | .s,_,h=>Jde h h2
 | .l _,_,h=>⟨Jde h.1 h1,λx hx=>(h.2 x hx).up h1 h2⟩
 | .pr _ _,_,h=>⟨h.1.up h1 h2,h.2.up h1 h2⟩
 | .ar _ _,_,h=>λi hi=>(h i hi).up h1 h2
 | .u,_,_=>trivial
 | .f,_,_=>trivial
section
variable {α:Type} {l:List α}
theorem J3:0<=J0 l:=Int.natCast_nonneg _
theorem Jey:J0 ([]:List α)=0:=rfl
theorem J5U{x:α}:J0 [x]=1:=rfl
theorem Jb6{m:List α}:J0 (l++m)=J0 l+J0 m:=by simp[J0]
end
theorem Jar(n:Int):IntKind.i64.wrap n=(n+9223372036854775808)%18446744073709551616-9223372036854775808:=by simp[IntKind.wrap,IntKind.bits,IntKind.signed];omega
theorem J7T(k:IntKind)(n:Int):k.min<=k.wrap n/\k.wrap n<=k.max:=by cases k<;>simp[IntKind.wrap,IntKind.min,IntKind.max,IntKind.bits,IntKind.signed]<;>omega
theorem Jg(a b:Int):J1 .i64 a b=(a+b+9223372036854775808)%18446744073709551616-9223372036854775808:=Jar _
theorem J0H(a b:Int):JG .i64 a b=(a-b+9223372036854775808)%18446744073709551616-9223372036854775808:=Jar _
theorem JLS(a b:Int):J3f .i64 a b=(a*b+9223372036854775808)%18446744073709551616-9223372036854775808:=Jar _
theorem JK1(a:Int):cvI .i64 a=(a+9223372036854775808)%18446744073709551616-9223372036854775808:=Jar _
section
variable {B S:Int} {k:IntKind} {a b:Int}
theorem J2:Ty.fit B S (.i .i64) a↔ -9223372036854775808<=a/\a<=9223372036854775807:=by simp[Ty.fit,IntKind.min,IntKind.max,IntKind.signed,IntKind.bits]
theorem JcZ(k:IntKind)(n:Int)(h:k.min<=n/\n<=k.max:=by decide):Ty.fit B S (.i k) n:=h
theorem J5:Ty.fit B S (.i k) (J1 k a b):=J7T _ _
theorem J22:Ty.fit B S (.i k) (JG k a b):=J7T _ _
theorem JMo:Ty.fit B S (.i k) (J3f k a b):=J7T _ _
theorem Jex:Ty.fit B S (.i k) (cvI k a):=J7T _ _
theorem cvu(k:IntKind)(a:Int)(h:k.min=0:=by rfl):0<=cvI k a:=by have:=(J7T k a).1;rw[h]at this;exact this
theorem JNH:Ty.fit B S (.i k) (orI k a b):=J7T _ _
theorem JFL:Ty.fit B S (.i k) (JgH k a b):=J7T _ _
theorem JNm:Ty.fit B S (.i k) (JJV k a):=J7T _ _
theorem JMA(ha:Ty.fit B S (.i k) a)(hb:Ty.fit B S (.i k) b):Ty.fit B S (.i k) (JaZ a b):=by
 unfold JaZ;split
 ·exact hb
 ·exact ha
theorem J45(ha:Ty.fit B S (.i k) a)(hb:Ty.fit B S (.i k) b):Ty.fit B S (.i k) (J1P a b):=by
 unfold J1P;split
 ·exact hb
 ·exact ha
theorem J42{α:Type}{l:List α}{n:Int}(h:J0 l<=n)(hn:n<=9223372036854775807):Ty.fit B S (.i .i64) (J0 l):=by have:=J3 (l:=l);rw[J2];omega
theorem Ja{t:Ty}(e:0<=B:=by omega):Ty.fit B S (.l t) ([]:List t.D):=⟨e,λ_ h=>by cases h⟩
theorem J0f{t:Ty}{x:t.D}(e:1<=B)(h:t.fit B S x):Ty.fit B S (.l t) ([x]:List t.D):=⟨e,λy hy=>by
 obtain rfl:y=x:=by simpa using hy
 exact h⟩
theorem J0S{t:Ty}{x:t.D}{l:List t.D}(e:J0 (x::l)<=B)(h:t.fit B S x)(hl:Ty.fit B S (.l t) l):Ty.fit B S (.l t) (x::l):=⟨e,λy hy=>by
 rcases J2A.1 hy with rfl|hy
 ·exact h
 ·exact hl.2 y hy⟩
theorem JCo:Ty.fit B S (.i .u8) a↔0<=a/\a<=255:=by simp[Ty.fit,IntKind.min,IntKind.max,IntKind.signed,IntKind.bits]
theorem J0e(g:0<=B)(e:0<=S): ∀t:Ty,t.fit B S t.zero
 | .b=>trivial
 | .i k=>by cases k<;>simp[Ty.fit,Ty.zero,IntKind.min,IntKind.max,IntKind.signed,IntKind.bits]
 | .s=>e
 | .l _=>Ja g
 | .pr a c=>⟨J0e g e a,J0e g e c⟩
 | .ar n t=>λi hi=>by
   show t.fit B S ((Vector.replicate n t.zero)[i]);rw[Vector.getElem_replicate];exact J0e g e t
 | .u=>trivial
 | .f=>trivial
end
theorem Jj{B S:Int}{t:Ty}{l:List t.D}(_:Ty.fit B S (.l t) l): @J0 t.D l= @J0 t.D l:=rfl
section
variable {B S:Int} {t:Ty}
theorem Jh{l:List t.D}{i:Int}(h:Ty.fit B S (.l t) l)(g:0<=i:=by omega)(h1:i<J0 l:=by omega):Tot (idx l i) λr=>t.fit B S r/\r∈l:=by
 have e:i.toNat<l.length:=by unfold J0 at h1;omega
 refine⟨l[i.toNat],?_,h.2 _ (Jej e),Jej e⟩;unfold idx;rw[if_pos g,JF e]
theorem Jk5{n bytes:Nat}(h:(n:Int)<=34359738368)(hb:bytes<=2048):J61 n bytes=true:=by unfold J61;rw[decide_eq_true_eq];have:(2*n+512)*bytes<=(2*34359738368+512)*2048:=Nat.mul_le_mul (by omega) hb;omega
theorem J0q{bytes:Nat}{l m:List t.D}{Bl Bm:Int}(k n:Int)(hl:Ty.fit Bl S (.l t) l)(hm:Ty.fit Bm S (.l t) m)(hk:J0 l=k:=by rfl)(hn:J0 m=n:=by rfl)(h1:Bl<=B:=by omega)(h2:Bm<=B:=by omega)(h3:k+n<=B:=by omega)(e:B<=34359738368:=by omega)(hb:bytes<=2048:=by decide):
  Tot (Jy bytes l m) λr=>Ty.fit B S (.l t) r/\J0 r=k+n/\r=l++m:=by
 subst hn hk;refine⟨l++m,?_,⟨by rw[Jb6];exact h3,λx hx=>?_⟩,Jb6,rfl⟩
 ·unfold Jy;rw[if_pos (Jk5 (by unfold J0 at h3;omega) hb)]
 ·rcases J1Q.1 hx with h|h
  ·exact(hl.2 x h).up h1 (J0D _)
  ·exact(hm.2 x h).up h2 (J0D _)
theorem JtN{bytes:Nat}{l:List t.D}(hl:Ty.fit B S (.l t) l)(e:B<=34359738368)(hb:bytes<=2048):Tot (J1g bytes l) λr=>r=l:=by refine⟨l,?_,rfl⟩;unfold J1g;rw[if_pos (Jk5 (by have:=hl.1;unfold J0 at this;omega) hb)]
theorem Jv7{α:Type}{l:List α}{k:Int}(e:0<=k)(h1:k<=J0 l):Tot (J0z l none (some k)) λr=>r=l.take k.toNat/\J0 r=k:=by
 refine⟨l.take k.toNat,?_,rfl,?_⟩
 ·unfold J0z Jr3 JuE;unfold J0 at h1;simp only[if_pos (And.intro e h1)];simp
 ·unfold J0 at*;rw[J6W];omega
theorem JdB{α:Type}{l:List α}{k:Int}(e:0<=k)(h1:k<=J0 l):Tot (J0z l (some k) none) λr=>r=l.drop k.toNat/\J0 r=J0 l-k:=by
 refine⟨l.drop k.toNat,?_,rfl,?_⟩
 ·unfold J0z Jr3 JuE;unfold J0 at h1;simp only[if_pos (And.intro e h1)];rw[List.take_of_length_le];simp
 ·unfold J0 at*;rw[J9m];omega
theorem JOb{α:Type}{l:List α}{j k:Int}(g:0<=j)(h2:j<=k)(h1:k<=J0 l):Tot (J0z l (some j) (some k)) λr=>r=(l.drop j.toNat).take (k-j).toNat/\J0 r=k-j:=by
 refine⟨(l.drop j.toNat).take (k-j).toNat,?_,rfl,?_⟩
 ·unfold J0z Jr3 JuE;unfold J0 at h1;have hk:0<=k:=by omega
  have e:j<=(k.toNat:Int):=by omega
  simp only[if_pos (And.intro hk h1),if_pos (And.intro g e)];have:k.toNat-j.toNat=(k-j).toNat:=by omega
  rw[this]
 ·unfold J0 at*;rw[J6W,J9m];omega
theorem JKd{l:List t.D}{n:Nat}(h:Ty.fit B S (.l t) l):Ty.fit B S (.l t) (l.take n):=⟨by have:=h.1;unfold J0 at*;rw[J6W];omega,λx hx=>h.2 x (JDv hx)⟩
theorem JKS{l:List t.D}{n:Nat}(h:Ty.fit B S (.l t) l):Ty.fit B S (.l t) (l.drop n):=⟨by have:=h.1;unfold J0 at*;rw[J9m];omega,λx hx=>h.2 x (JCB hx)⟩
theorem J6r{a b:List UInt8}(h:J0 a+J0 b<=4611686018427387904:=by omega):Tot (J6n a b) λr=>J0 r=J0 a+J0 b/\r=a++b:=by refine⟨a++b,?_,Jb6,rfl⟩;unfold J6n;unfold J0 at h;rw[if_pos (by omega)]
theorem JB1{bytes:Nat}{n m:Int}{z:t.D}(hz:t.fit B S z)(e:0<=n:=by omega)(h1:n<=m:=by omega)(h2:m<=34359738368:=by omega)(hn:n<=B:=by omega)(hb:bytes<=2048:=by decide):Tot (mkS bytes n m z) λr=>Ty.fit B S (.l t) r/\J0 r=n:=by
 refine⟨List.replicate n.toNat z,?_,⟨?_,λx hx=>?_⟩,?_⟩
 ·unfold mkS;have:(bytes:Int)*m<=2048*34359738368:=Jde (Int.mul_le_mul_of_nonneg_right (by omega) (by omega)) (Int.mul_le_mul_of_nonneg_left h2 (by omega));rw[if_pos ⟨e,h1,by omega,by omega⟩]
 ·unfold J0;rw[JjJ];omega
 ·rw[List.eq_of_mem_replicate hx];exact hz
 ·unfold J0;rw[JjJ];omega
theorem JPB{x y:Int}(h: ¬y=0):Tot (JnN x y) λr=>r=x.tmod y:=⟨_,by unfold JnN;rw[if_neg h],rfl⟩
theorem JPb{k:IntKind}{x y:Int}(h:0<=y):Tot (JrM k x y) λr=>r=k.wrap (x*2^(min y.toNat k.bits)):=⟨_,by unfold JrM;rw[if_neg (by omega)],rfl⟩
theorem JPL{k:IntKind}{x y:Int}(h:0<=y):Tot (Jn3 k x y) λr=>r=x.fdiv (2^(min y.toNat k.bits)):=⟨_,by unfold Jn3;rw[if_neg (by omega)],rfl⟩
theorem J6z{n:Nat}{i:Int}(e:0<=i:=by omega)(h1:i<n:=by omega):Tot (inb n i) λ_=>True:=⟨(),by unfold inb;rw[if_pos ⟨e,h1⟩],trivial⟩
theorem JcI{l:List t.D}{i:Int}(h:Ty.fit B S (.l t) l)(g:0<=i:=by omega)(h1:i<J0 l:=by omega):Tot (lat l i.toNat) λr=>t.fit B S r/\r∈l:=by
 have e:i.toNat<l.length:=by unfold J0 at h1;omega
 exact⟨l[i.toNat],by unfold lat;rw[JF e],h.2 _ (Jej e),Jej e⟩
theorem JcK{n:Nat}{v:Vector t.D n}{i:Nat}(h:Ty.fit B S (.ar n t) v)(h1:i<n:=by omega):Tot (vat v i) λr=>t.fit B S r:=
 ⟨v[i],by unfold vat;rw[Vector.getElem?_eq_getElem h1],h _ h1⟩
theorem J4e{l:List t.D}{i:Nat}{x:t.D}(h:Ty.fit B S (.l t) l)(hx:t.fit B S x):Ty.fit B S (.l t) (J0w l i x):=⟨by
 have:=h.1;unfold J0w J0 at*;rw[List.length_set];exact this,λy hy=>by
 rcases Jvh hy with h1|rfl
 ·exact h.2 y h1
 ·exact hx⟩
theorem J5X{α:Type}{l:List α}{i:Nat}{x:α}:J0 (J0w l i x)=J0 l:=by unfold J0w J0;rw[List.length_set]
theorem Jro{n:Nat}{v:Vector t.D n}{i:Nat}{x:t.D}(h:Ty.fit B S (.ar n t) v)(hx:t.fit B S x):Ty.fit B S (.ar n t) (JoO v i x):=λj hj=>by
 unfold JoO;show t.fit B S ((v.setIfInBounds i x)[j]);rw[Vector.getElem_setIfInBounds];split
 ·exact hx
 ·exact h j hj
theorem JHk{l:List UInt8}{i:Int}(g:0<=i:=by omega)(h1:i<J0 l:=by omega):Tot (Jow l i) λr=>0<=r/\r<=255:=by
 have e:i.toNat<l.length:=by unfold J0 at h1;omega
 refine⟨(l[i.toNat].toNat:Int),?_,by omega,?_⟩
 ·unfold Jow;rw[if_pos g,JF e]
 ·have:=l[i.toNat].toNat_lt;omega
theorem JIK{l:List UInt8}:J0 (toByt l)=J0 l:=by unfold toByt J0;rw[J1M]
theorem J7L{l:List Int}:J0 (toStr l)=J0 l:=by unfold toStr J0;rw[J1M]
end
theorem Ty.fit.u{B S g e:Int}{t:Ty}{x:t.D}(h:t.fit B S x)(h1:B<=g:=by omega)(h2:S<=e:=by omega):t.fit g e x:=h.up h1 h2
theorem Tot.inr{σ ρ:Type}{o:Option ρ}{Q:σ⊕ρ->Prop}(h:Tot o λy=>Q (.inr y)):Tot (Option.map .inr o) Q:=h.map λ_ h=>h
section
variable {B S:Int} {t:Ty}
theorem Tot.clo{ρ:Type}{Q:ρ->Prop}{bytes:Nat}{l:List t.D}{f:List t.D->Option ρ}(hl:Ty.fit B S (.l t) l)(g:B<=34359738368)(hb:bytes<=2048)(h:Tot (f l) Q):Tot ((J1g bytes l).bind f) Q:=
 .bind (JtN hl g hb) λr e=>by subst e;exact h
theorem J2c{α:Type}{x:α}{l:List α}:J0 (x::l)=J0 l+1:=by simp[J0]
theorem Jd(h:0<=S:=by omega):Ty.fit B S .s ([]:List UInt8):=h
theorem JOm{l:List UInt8}(n:Int)(h:J0 l=n)(h2:n<=S):Ty.fit B S .s l:=by show J0 l<=S;omega
theorem J5G{α:Type}{l:List α}{i:Int}(e:0<=i:=by omega)(h1:i<J0 l:=by omega):Tot (inb l.length i) λ_=>True:=J6z e h1
theorem J5M{l:List t.D}{k:Int}(h:Ty.fit B S (.l t) l)(g:0<=k:=by omega)(h1:k<=J0 l:=by omega):Tot (J0z l none (some k)) λr=>Ty.fit B S (.l t) r/\J0 r=k:=
 (Jv7 g h1).mono λ_ ⟨e,h2⟩=>⟨e▸JKd h,h2⟩
theorem J3i{l:List t.D}{k:Int}(h:Ty.fit B S (.l t) l)(g:0<=k:=by omega)(h1:k<=J0 l:=by omega):Tot (J0z l (some k) none) λr=>Ty.fit B S (.l t) r/\J0 r=J0 l-k:=
 (JdB g h1).mono λ_ ⟨e,h2⟩=>⟨e▸JKS h,h2⟩
theorem Jdq{l:List UInt8}{k:Int}(h:J0 l<=S)(e:0<=k:=by omega)(h1:k<=J0 l:=by omega):Tot (J0z l none (some k)) λr=>J0 r<=S/\J0 r=k:=
 (Jv7 e h1).mono λ_ ⟨_,h2⟩=>⟨by omega,h2⟩
theorem JDi{l:List UInt8}{k:Int}(h:J0 l<=S)(e:0<=k:=by omega)(h1:k<=J0 l:=by omega):Tot (J0z l (some k) none) λr=>J0 r<=S/\J0 r=J0 l-k:=
 (JdB e h1).mono λ_ ⟨_,h2⟩=>⟨by omega,h2⟩
theorem Jdy{l:List UInt8}{j k:Int}(h:J0 l<=S)(e:0<=j:=by omega)(h2:j<=k:=by omega)(h1:k<=J0 l:=by omega):Tot (J0z l (some j) (some k)) λr=>J0 r<=S/\J0 r=k-j:=
 (JOb e h2 h1).mono λ_ ⟨_,h3⟩=>⟨by omega,h3⟩
theorem Jgu{l:List Int}(h:J0 l<=S):Ty.fit B S .s (toStr l):=by show J0 (toStr l)<=S;rw[J7L];exact h
theorem JG9(a b:Int):JaZ a b<=a/\JaZ a b<=b/\(JaZ a b=a\/JaZ a b=b):=by unfold JaZ;split<;>omega
theorem Jhw(a b:Int):a<=J1P a b/\b<=J1P a b/\(J1P a b=a\/J1P a b=b):=by unfold J1P;split<;>omega
theorem JFC{x y:Int}(h:0<=x):x.tmod y<=x:=by
 obtain⟨m,rfl⟩:=Int.eq_ofNat_of_zero_le h;cases y with
 |ofNat n=>show((m%n:Nat):Int)<=m;exact Int.ofNat_le.2 (Nat.mod_le _ _)
 |negSucc n=>show((m%(n+1):Nat):Int)<=m;exact Int.ofNat_le.2 (Nat.mod_le _ _)
theorem JMO{x y:Int}:(0<=x->0<=x.tmod y)/\(0<y->x.tmod y<y)/\(x<=0->x.tmod y<=0)/\(0<=x->x.tmod y<=x)/\(x<=0->x<=x.tmod y):=by
 refine⟨λh=>Int.tmod_nonneg _ h,λh=>Int.tmod_lt_of_pos _ h,λh=>?_,λh=>?_,λh=>?_⟩
 ·have:=Int.tmod_nonneg (a:= -x) y (by omega);rw[Int.neg_tmod]at this;omega
 ·exact JFC h
 ·have h2:(-x).tmod y<= -x:=JFC (by omega);rw[Int.neg_tmod]at h2;omega
theorem JAy{k:IntKind}{x y:Int}(hx:Ty.fit B S (.i k) x)(h: ¬y=0):Tot (JnN x y) λr=>Ty.fit B S (.i k) r/\((0<=x->0<=r)/\(0<y->r<y)):=
 (JPB h).mono λr e=>by
  subst e;obtain⟨h1,h2,h3,h4,h5⟩:=JMO (x:=x) (y:=y);refine⟨?_,h1,h2⟩;have hz:k.min<=0/\0<=k.max:=by cases k<;>simp[IntKind.min,IntKind.max,IntKind.bits,IntKind.signed]
  obtain⟨q1,q2⟩:k.min<=x/\x<=k.max:=hx;show k.min<=x.tmod y/\x.tmod y<=k.max;rcases Int.le_total 0 x with h|h
  ·have:=h1 h;have:=h4 h;omega
  ·have:=h3 h;have:=h5 h;omega
theorem JOT{k:IntKind}{x y:Int}(h:0<=y):Tot (JrM k x y) λr=>Ty.fit B S (.i k) r:=(JPb h).mono λr e=>e▸J7T _ _
theorem JMi{k:IntKind}{x:Int}{n:Nat}(hx:Ty.fit B S (.i k) x):Ty.fit B S (.i k) (x.fdiv (2^n)):=by
 have hp:(0:Int)<2^n:=Int.pow_pos (by decide);have hz:k.min<=0/\0<=k.max:=by cases k<;>simp[IntKind.min,IntKind.max,IntKind.bits,IntKind.signed]
 obtain⟨q1,q2⟩:k.min<=x/\x<=k.max:=hx;show k.min<=x.fdiv (2^n)/\x.fdiv (2^n)<=k.max;rw[Int.fdiv_eq_ediv_of_nonneg _ (Int.le_of_lt hp)];rcases Int.le_total 0 x with h|h
 ·have h1:=Int.ediv_nonneg h (Int.le_of_lt hp);have h2:=Int.ediv_le_self (2^n:Int) h;omega
 ·have h1:x/(2^n)<=0:=by
   have:=Int.ediv_le_ediv hp h;rwa[Int.zero_ediv]at this
  have h2:x<=x/(2^n):=by rw[Int.le_ediv_iff_mul_le hp];have:x*(2^n)<=x*1:=Int.mul_le_mul_of_nonpos_left h (by omega);omega
  omega
theorem JC9{k:IntKind}{x y:Int}(hx:Ty.fit B S (.i k) x)(h:0<=y):Tot (Jn3 k x y) λr=>Ty.fit B S (.i k) r:=(JPL h).mono λr e=>e▸JMi hx
end
theorem Jb{σ τ ρ:Type}{L:σ->Option (σ⊕ρ)}{Q:ρ->Prop}(e:τ->σ)(I:τ->Prop)(m:τ->Int)
  (h: ∀c,I c->Tot (L (e c)) λr=>match r with| .inl z=> ∃c',z=e c'/\I c'/\m c'<m c/\0<=m c| .inr y=>Q y) {z:σ} (c:τ) (hz:z=e c) (g:I c):Tot (Jf L z) Q:=by
 subst hz;have j: ∀(n:Nat) (c:τ),(m c+1).toNat<n->I c->Tot (Jf L (e c)) Q:=by
  intro n
  induction n with
  |zero=>intro c h1;omega
  |succ n ih=>
   intro c h1 g;obtain⟨r,h2,h3⟩:=h c g;cases r with
   |inl z=>
    obtain⟨c',rfl,h4,h5,k⟩:=h3;rw[Jap h2];exact ih c' (by omega) h4
   |inr y=>rw[J6t h2];exact⟨y,rfl,h3⟩
 exact j _ c (Nat.lt_succ_self _) g
theorem JPV(x m:Int)(g:0<=m:=by decide)(hm:m<4294967296:=by decide):0<=JAo .u32 x m/\JAo .u32 x m<=m:=by
 have e:JAo .u32 x m=IntKind.wrap .u32 (((BitVec.ofInt 32 x&&&BitVec.ofInt 32 m).toNat:Nat):Int):=rfl;have h2:(BitVec.ofInt 32 m).toNat=m.toNat:=by rw[BitVec.toNat_ofInt];omega
 have h3:(BitVec.ofInt 32 x&&&BitVec.ofInt 32 m).toNat<=m.toNat:=by rw[BitVec.toNat_and,h2];exact Nat.and_le_right
 generalize (BitVec.ofInt 32 x&&&BitVec.ofInt 32 m).toNat=z at e h3;have h4:IntKind.wrap .u32 (z:Int)=(z:Int)%4294967296:=rfl;rw[e,h4];omega
theorem om{p:Prop}(h:p:=by first|omega|(dsimp only;omega)|(simp only[Jey,J5U]<;>omega)):p:=h
abbrev BS(B S b s:Int):Prop:=b<=B/\s<=S
theorem fk0{B S:Int}:Ty.fit B S (.i .i64) 0:=JcZ .i64 0
theorem fkn{B S:Int}(n:Int)(h:IntKind.i64.min<=n/\n<=IntKind.i64.max:=by decide):Ty.fit B S (.i .i64) n:=h
abbrev BC(B S b s:Int):Prop:=b<=B/\s<=S/\B<=4611686018427387903
abbrev BH(B S:Int):Prop:=16384<=B/\1073741824<=S
abbrev BG(B S:Int):Prop:=16384<=B/\1073741824<=S/\B<=4611686018427387903
theorem fzr{B S:Int}{t:Ty}{x:t.D}(e:x=t.zero:=by rfl)(h:0<=B:=by omega)(h2:0<=S:=by omega):Ty.fit B S t x:=e▸J0e h h2 t
def Ty.nl:Ty->Bool
 | .l _=>false
 | .pr a c=>a.nl&&c.nl
 | .ar _ t=>t.nl
 |_=>true
theorem Ty.fit.z'{B S:Int}: ∀{t:Ty} {x:t.D},t.nl=true->Ty.fit B S t x->Ty.fit 0 S t x
 | .b,_,_,_=>trivial
 | .i _,_,_,h=>h
 | .s,_,_,h=>h
 | .l _,_,n,_=>by cases n
 | .pr a c,_,n,h=>by
   have n:(a.nl&&c.nl)=true:=n;rw[JY]at n;exact⟨Ty.fit.z' n.1 h.1,Ty.fit.z' n.2 h.2⟩
 | .ar _ _,_,n,h=>λi hi=>Ty.fit.z' n (h i hi)
 | .u,_,_,_=>trivial
 | .f,_,_,_=>trivial
theorem Ty.fit.z{B S:Int}{t:Ty}{x:t.D}(h:Ty.fit B S t x)(n:t.nl=true:=by rfl):Ty.fit 0 S t x:=Ty.fit.z' n h
theorem omc{p q:Prop}(o:q)(h:q->p:=by intro o;first|omega|(dsimp only;omega)|(simp only[Jey,J5U]<;>omega)):p:=h o
theorem oo{p:Prop}(h:p:=by omega):p:=h
end Go.Am
end
section
namespace Go.Am
theorem Tot.eqn{ρ:Type}{o:Option ρ}{Q:ρ->Prop}(h:Tot o Q):Tot o λr=>Q r/\o=Option.some r:=by obtain⟨r,e,h⟩:=h;exact⟨r,e,h,e⟩
theorem Tot.same{α ρ:Type}{o:Option α}{f:α->Option ρ}{w:α}{Q:ρ->Prop}(e:o=Option.some w)(h:Tot (f w) Q):Tot (o.bind f) Q:=by rw[e];exact h
def Par{ρ:Type}(o:Option ρ)(Q:ρ->Prop):Prop:= ∀r,o=Option.some r->Q r
section
variable {α β ρ σ:Type} {Q:ρ->Prop} {u v:Option ρ}
theorem Par.bind{o:Option α}{f:α->Option ρ}(h: ∀a,o=Option.some a->Par (f a) Q):Par (o.bind f) Q:=by
 intro r hr;cases o with
 |none=>cases hr
 |some a=>exact h a rfl r hr
theorem Par.map{o:Option α}{f:α->ρ}(h:Par o λa=>Q (f a)):Par (Option.map f o) Q:=by
 intro r hr;cases o with
 |none=>cases hr
 |some a=>injection hr with hr;subst hr;exact h a rfl
theorem Par.some{r:ρ}(h:Q r):Par (Option.some r) Q:=by intro r' e;injection e with e;subst e;exact h
theorem Par.none:Par (Option.none:Option ρ) Q:=by intro r e;cases e
theorem Par.mono{o:Option ρ}{P:ρ->Prop}(h:Par o P)(h2: ∀r,P r->Q r):Par o Q:=λr e=>h2 r (h r e)
theorem Par.ite{c:Bool}(h1:c=true->Par u Q)(h2:c=false->Par v Q):Par (if c=true then u else v) Q:=by
 cases c with
 |true=>exact h1 rfl
 |false=>exact h2 rfl
theorem Par.itf{c:Bool}(h1:c=false->Par u Q)(h2:c=true->Par v Q):Par (if c=false then u else v) Q:=by
 cases c with
 |true=>exact h2 rfl
 |false=>exact h1 rfl
theorem Par.not{c:Bool}(h1:c=false->Par u Q)(h2:c=true->Par v Q):Par (if Jq c=true then u else v) Q:=by
 cases c with
 |true=>exact h2 rfl
 |false=>exact h1 rfl
theorem Par.nof{c:Bool}(h1:c=true->Par u Q)(h2:c=false->Par v Q):Par (if Jq c=false then u else v) Q:=by
 cases c with
 |true=>exact h1 rfl
 |false=>exact h2 rfl
variable {a c:Int}
theorem Par.by{p:Prop}{x:Bool}(hp:x=true↔p)(h1:p->Par u Q)(h2: ¬p->Par v Q):Par (if x=true then u else v) Q:=.ite (λh=>h1 (hp.1 h)) λh=>h2 λh3=>by rw[hp.2 h3]at h;cases h
theorem Par.byf{p:Prop}{x:Bool}(hp:x=true↔p)(h1: ¬p->Par u Q)(h2:p->Par v Q):Par (if x=false then u else v) Q:=.itf (λh=>h1 λh3=>by rw[hp.2 h3]at h;cases h) λh=>h2 (hp.1 h)
theorem Par.lt(h1:a<c->Par u Q)(h2: ¬a<c->Par v Q):Par (if ltI a c=true then u else v) Q:=.by J4c h1 h2
theorem Par.gt(h1:c<a->Par u Q)(h2: ¬c<a->Par v Q):Par (if gtI a c=true then u else v) Q:=.by J9v h1 h2
theorem Par.le(h1:a<=c->Par u Q)(h2: ¬a<=c->Par v Q):Par (if leI a c=true then u else v) Q:=.by J24 h1 h2
theorem Par.ge(h1:c<=a->Par u Q)(h2: ¬c<=a->Par v Q):Par (if geI a c=true then u else v) Q:=.by J8a h1 h2
theorem Par.eq(h1:a=c->Par u Q)(h2: ¬a=c->Par v Q):Par (if eqI a c=true then u else v) Q:=.by J81 h1 h2
theorem Par.ne(h1: ¬a=c->Par u Q)(h2:a=c->Par v Q):Par (if neI a c=true then u else v) Q:=.by Jd9 h1 (λh=>h2 (Decidable.of_not_not h))
theorem Par.ltf(h1: ¬a<c->Par u Q)(h2:a<c->Par v Q):Par (if ltI a c=false then u else v) Q:=.byf J4c h1 h2
theorem Par.gtf(h1: ¬c<a->Par u Q)(h2:c<a->Par v Q):Par (if gtI a c=false then u else v) Q:=.byf J9v h1 h2
theorem Par.lef(h1: ¬a<=c->Par u Q)(h2:a<=c->Par v Q):Par (if leI a c=false then u else v) Q:=.byf J24 h1 h2
theorem Par.gef(h1: ¬c<=a->Par u Q)(h2:c<=a->Par v Q):Par (if geI a c=false then u else v) Q:=.byf J8a h1 h2
theorem Par.eqf(h1: ¬a=c->Par u Q)(h2:a=c->Par v Q):Par (if eqI a c=false then u else v) Q:=.byf J81 h1 h2
theorem Par.nef(h1:a=c->Par u Q)(h2: ¬a=c->Par v Q):Par (if neI a c=false then u else v) Q:=.byf Jd9 (λh=>h1 (Decidable.of_not_not h)) h2
theorem Par.while{L:σ->Option (σ⊕ρ)}(I:σ->Prop){z:σ}(hz:I z)(h: ∀z,I z->Par (L z) λr=>match r with| .inl g=>I g| .inr y=>Q y):Par (Jf L z) Q:=by intro r hr;refine JoP (P:=λs r=>I s->Q r) (λs r e hs=>h s hs _ e) (λs s' r e ih hs=>ih (h s hs _ e)) hr hz
end
theorem J40{α:Type}{l:List α}{i:Int}{r:α}(h:idx l i=Option.some r):0<=i/\l[i.toNat]?=Option.some r:=by
 unfold idx at h;split at h
 ·exact⟨by assumption,h⟩
 ·cases h
theorem J5P{α:Type}{l:List α}{j:Nat}{e:α}(h:l[j]?=some e):(j:Int)<J0 l:=by obtain⟨h,_⟩:=J5f.1 h;unfold J0;omega
theorem JKX(a b:Int):J3f .i64 a b=a*b\/a*b< -9223372036854775808\/9223372036854775807<a*b:=by have h:J3f .i64 a b=(a*b+9223372036854775808)%18446744073709551616-9223372036854775808:=Jar _;rw[h];generalize a*b=c;omega
theorem JeA(a b:Int):J1 .i64 a b=a+b\/a+b< -9223372036854775808\/9223372036854775807<a+b:=by rw[Jg];omega
theorem Juz(a b:Int):JG .i64 a b=a-b\/a-b< -9223372036854775808\/9223372036854775807<a-b:=by rw[J0H];omega
end Go.Am
end
section
namespace Go.Am
def Fw{α:Type}(o e:Option α):Prop:= ∀y,o=some y->e=some y
variable {α β σ τ ρ:Type}
theorem Fw.rfl{o:Option α}:Fw o o:=λ_ h=>h
theorem Fw.of{o g:Option α}(h:o=g):Fw o g:=λ_ e=>h▸e
theorem Fw.ite{c v:Bool}{a b e g:Option α}(h1:c=v->Fw a e)(h2: ¬c=v->Fw b g):Fw (if c=v then a else b) (if c=v then e else g):=by
 by_cases h:c=v
 ·rw[if_pos h,if_pos h];exact h1 h
 ·rw[if_neg h,if_neg h];exact h2 h
theorem Fw.bind{o j:Option α}{f g:α->Option β}(h:Fw o j)(k: ∀y,o=some y->Fw (f y) (g y)):Fw (o.bind f) (j.bind g):=λr e=>by obtain⟨y,h1,h2⟩:=J2s.1 e;rw[h y h1];exact k y h1 r h2
theorem Fw.while{L:σ->Option (σ⊕ρ)}{M:τ->Option (τ⊕ρ)}(R:σ->τ->Prop)
  (h: ∀a b,R a b-> ∀r,L a=some r->match r with| .inl k=> ∃g,M b=some (.inl g)/\R k g| .inr y=>M b=some (.inr y)) {z:σ} {j:τ} (hz:R z j):Fw (Jf L z) (Jf M j):=λy hy=>by
 refine JoP (P:=λs r=> ∀b,R s b->Jf M b=some r) (λs r e b hb=>J6t (h s b hb _ e)) (λs s' r e ih b hb=>?_) hy j hz;obtain⟨g,e2,h2⟩:=h s b hb _ e;rw[Jap e2];exact ih g h2
end Go.Am
end
section
namespace Go.Am
set_option linter.unusedVariables false
set_option maxRecDepth 20000
set_option maxHeartbeats 4000000
section
variable {B S:Int}
theorem JpN{x:J2f}(e:J0A x=some true):J0 x.2<=12:=by
 have g:Par (J0A x) λy=>y=true->J0 x.2<=12:=by unfold J0A;exact .le (λc r _ _=>c) λ_=>.some nofun
 exact g _ e rfl
theorem Jz9{x:JW}(e:J1U x=some true): ∀(j:Nat) (hj:j<16),J0 (x.2.2[j]).2<=12:=by
 have k:Par (J1U x) λy=>y=true-> ∀(j:Nat) (hj:j<16),J0 (x.2.2[j]).2<=12:=by
  unfold J1U;refine .while (λz=>z.2=x/\0<=z.1/\z.1<=16/\ ∀(j:Nat) (hj:j<16),(j:Int)<z.1->J0 (x.2.2[j]).2<=12) ⟨rfl,J0D _,by dsimp only;omega,λj e h1=>by dsimp only at h1;omega⟩ ?_;rintro⟨i,z⟩ ⟨rfl,o,h,g⟩;dsimp only at o g h;unfold Jae;dsimp only;refine .lt (λc=>?_) λc=>.some λ_ j hj=>g j hj oo;refine .bind λ_ _=>.bind λr h4=>.bind λb hb=>.nof (λn=>?_) λ_=>.some nofun;subst n;have:=Jg i 1;have hn:z.2=z.2/\(0<=J1 .i64 i 1/\J1 .i64 i 1<=16/\ ∀(j:Nat) (hj:j<16),(j:Int)<J1 .i64 i 1->J0 (z.2.2[j]).2<=12):=by
   refine⟨rfl,oo,oo,λj hj q=>?_⟩;by_cases hl:(j:Int)<i
   ·exact g j hj hl
   ·have:j=i.toNat:=by omega
    subst this;unfold vat at h4;rw[Vector.getElem?_eq_getElem hj]at h4;injection h4 with h4;rw[h4];exact JpN hb
  exact .eq (λ_=>.bind λ_ _=>.bind λ_ _=>.ite (λ_=>.some nofun) λ_=>.some ⟨rfl,hn.2⟩) λ_=>.some ⟨rfl,hn.2⟩
 exact k _ e rfl
theorem Jfe{x:JW}(e:J1J x=some true):0<=x.1/\x.1<64/\0<=x.2.1/\x.2.1<=1099511627776:=by
 have g:Par (J1J x) λy=>y=true->0<=x.1/\x.1<64/\0<=x.2.1/\x.2.1<=1099511627776:=by unfold J1J;exact .ge (λ_=>.lt (λ_=>.ge (λ_=>.some λc=>by have:=J24.1 c;omega) λ_=>.some nofun) λ_=>.some nofun) λ_=>.some nofun
 exact g _ e rfl
theorem Jyo{x:JW}(e:J1y x=some true):J1J x=some true/\J1U x=some true:=by
 have g:Par (J1y x) λy=>y=true->J1J x=some true/\J1U x=some true:=by unfold J1y;exact .bind λa ha=>.ite (λc=>.bind λb hb=>.some λd=>⟨c▸ha,d▸hb⟩) λ_=>.some nofun
 exact g _ e rfl
theorem JFI{x:JW}(h:Ty.fit B S Jt x)(e:J1U x=some true):Ty.fit 0 12 Jt x:=
 ⟨h.1,h.2.1,λi hi=>⟨trivial,Jz9 e i hi⟩⟩
theorem Jlg{x:JW}{y:Bool}(h:Ty.fit B S Jt x)(e:J1y x=some y)(c:y=true):(0<=x.1/\x.1<64/\0<=x.2.1/\x.2.1<=1099511627776)/\Ty.fit 0 12 Jt x:=by subst c;obtain⟨h1,h2⟩:=Jyo e;exact⟨Jfe h1,JFI h h2⟩
theorem J6N{x:JW}{y:Int}(h:Ty.fit B S Jt x)(e:J2i x=some y)(c:y=0):(0<=x.1/\x.1<64/\0<=x.2.1/\x.2.1<=1099511627776)/\Ty.fit 0 12 Jt x:=by
 subst c;have g:Par (J2i x) λy=>y=0->J1J x=some true/\J1U x=some true:=by unfold J2i;exact .bind λa ha=>.not (λ_=>.some nofun) λc=>.bind λb hb=>.not (λ_=>.some nofun) λd=>.some λ_=>⟨c▸ha,d▸hb⟩
 obtain⟨h1,h2⟩:=g _ e rfl;exact⟨Jfe h1,JFI h h2⟩
def JP2(n i:Int)(p:J00)(r:(TQ107)⊕Bool):Prop:=r=.inl (n,J1 .i64 i 1,p)\/r=.inr false
theorem JEJ(n i k:Int)(p:J00)(f:J09):Par (Jf J08 (n,i,k,p,f)) (JP2 n i p):=by refine .while (λz=>z.1=n/\z.2.1=i/\z.2.2.2.1=p) ⟨rfl,rfl,rfl⟩ ?_;rintro⟨n,i,k,p,f⟩ ⟨rfl,rfl,rfl⟩;unfold J08;exact .lt (λ_=>.bind λ_ _=>.eq (λ_=>.map (.some (.inr rfl))) λ_=>.some ⟨rfl,rfl,rfl⟩) λ_=>.some (.inl rfl)
theorem Jcl{x:J00}(e:J0j x=some true):(1<=x.1/\x.1<=64/\J0 x.2.1<=x.1/\0<=x.2.2/\(x.2.2<J0 x.2.1\/x.2.2=0))/\ ∀(j:Nat) (f:J09),x.2.1[j]?=some f->J1y f.1=some true:=by
 have k:Par (J0j x) λy=>y=true->(1<=x.1/\x.1<=64/\J0 x.2.1<=x.1/\0<=x.2.2/\(x.2.2<J0 x.2.1\/x.2.2=0))/\ ∀(j:Nat) (f:J09),x.2.1[j]?=some f->J1y f.1=some true:=by
  unfold J0j;refine .ltf (λw=>.gtf (λB=>.gtf (λv=>.ltf (λD=>.gt (λ_=>.some nofun) λC=>?_) λ_=>.some nofun) λ_=>.some nofun) λ_=>.some nofun) λ_=>.some nofun;have:=Jhw 0 (JG .i64 (J0 x.2.1) 1);have:=J0H (J0 x.2.1) 1;have:=J3 (l:=x.2.1);have hq:1<=x.1/\x.1<=64/\J0 x.2.1<=x.1/\0<=x.2.2/\(x.2.2<J0 x.2.1\/x.2.2=0):=by omega
  refine .while (λz=>z.2.2=x/\0<=z.2.1/\z.1=J0 x.2.1/\ ∀(j:Nat) (f:J09),(j:Int)<z.2.1->x.2.1[j]?=some f->J1y f.1=some true) ⟨rfl,J0D _,rfl,λj e h1=>by dsimp only at h1;omega⟩ ?_;rintro⟨n,i,z⟩ ⟨rfl,q,hn,h⟩;dsimp only at q h hn hq v;unfold J5v;dsimp only;refine .lt (λc=>?_) λc=>.some λ_=>⟨hq,λj f he=>h j f (by have:=J5P he;omega) he⟩;refine .bind λf hf=>.bind λb hb=>.nof (λo=>?_) λ_=>.some nofun;subst o;have:=Jg i 1;have A:z=z/\0<=J1 .i64 i 1/\n=J0 z.2.1/\ ∀(j:Nat) (f:J09),(j:Int)<J1 .i64 i 1->z.2.1[j]?=some f->J1y f.1=some true:=by
   refine⟨rfl,oo,hn,λj g hj he=>?_⟩;by_cases hl:(j:Int)<i
   ·exact h j g hl he
   ·have:j=i.toNat:=by omega
    subst this;rw[(J40 hf).2]at he;injection he with he;subst he
    exact hb
  refine .ite (λ_=>.ltf (λ_=>.gtf (λ_=>.not (λ_=>.ne (λ_=>.some nofun) λ_=>?_) λ_=>?_) λ_=>.some nofun) λ_=>.some nofun) λ_=>.not (λ_=>.ne (λ_=>.some nofun) λ_=>?_) λ_=>?_
  all_goals
   intro r hr;rcases JEJ n i 0 z f r hr with rfl|rfl
   ·exact A
   ·nofun
 exact k _ e rfl
theorem J2F{x:J00}{y:Bool}(h:Ty.fit B S JK x)(e:J0j x=some y)(c:y=true):(1<=x.1/\x.1<=64/\J0 x.2.1<=x.1/\0<=x.2.2/\(x.2.2<J0 x.2.1\/x.2.2=0))/\Ty.fit 64 12 JK x:=by subst c;obtain⟨q,k⟩:=Jcl e;refine⟨q,h.1,⟨by show J0 x.2.1<=64;omega,λa ha=>?_⟩,h.c⟩;obtain⟨j,hj⟩:=JgI.1 ha;have h2:=h.2.1.2 a ha;exact⟨(Jlg h2.1 (k j a hj) rfl).2.u,h2.2⟩
theorem J3y{x:J01}{y:Bool}(h:Ty.fit B S JB x)(e:J1n x=some y)(c:y=true)(k:B<=4611686018427387903:=by omega):(J0 x.1+J0 x.2<=1024)/\Ty.fit 1024 0 JB x:=by
 subst c;have g:Par (J1n x) λy=>y=true-> ¬1024<J1 .i64 (J0 x.1) (J0 x.2):=by unfold J1n;exact .gt (λ_=>.some nofun) λc _ _ _=>c
 have o:=g _ e rfl;have:=Jg (J0 x.1) (J0 x.2);have:=J3 (l:=x.1);have:=J3 (l:=x.2);have:J0 x.1<=B:=h.1.1;have:J0 x.2<=B:=h.2.1;have j:J0 x.1+J0 x.2<=1024:=by omega
 refine⟨j,⟨?_,λa ha=>?_⟩,?_,λa ha=>?_⟩
 ·show J0 x.1<=1024;omega
 ·have q:=h.1.2 a ha;exact q
 ·show J0 x.2<=1024;omega
 ·have q:=h.c a ha;exact q
theorem Jx7{x:Ju}(e:J2l x=some true):1<=x.1/\x.1<=1073741824/\1<=x.2.1/\x.2.1<=3/\J0 x.2.2.2.2.1<=4096/\J0 x.2.2.2.2.2<=8:=by
 have g:Par (J2l x) λy=>y=true->1<=x.1/\x.1<=1073741824/\1<=x.2.1/\x.2.1<=3/\J0 x.2.2.2.2.1<=4096/\J0 x.2.2.2.2.2<=8:=by unfold J2l;refine .ltf (λq=>.gtf (λh=>.ltf (λj=>.gtf (λo=>.ltf (λ_=>.gtf (λ_=>.gtf (λk=>.gt (λ_=>.some nofun) λn=>?_) λ_=>.some nofun) λ_=>.some nofun) λ_=>.some nofun) λ_=>.some nofun) λ_=>.some nofun) λ_=>.some nofun) λ_=>.some nofun;intro _ _ _;omega
 exact g _ e rfl
theorem JyD{x:List Ju}(e:J0Z x=some true):J0 x<=64/\ ∀(j:Nat) (f:Ju),x[j]?=some f->J2l f=some true:=by
 have k:Par (J0Z x) λy=>y=true->J0 x<=64/\ ∀(j:Nat) (f:Ju),x[j]?=some f->J2l f=some true:=by
  unfold J0Z;refine .gt (λ_=>.some nofun) λr=>?_;have hq:J0 x<=64:=by omega
  refine .while (λz=>z.1=x/\0<=z.2/\ ∀(j:Nat) (f:Ju),(j:Int)<z.2->x[j]?=some f->J2l f=some true) ⟨rfl,J0D _,λj e h1=>by dsimp only at h1;omega⟩ ?_;rintro⟨z,i⟩ ⟨rfl,q,h⟩;dsimp only at q h hq;unfold J9V;dsimp only;refine .lt (λc=>?_) λc=>.some λ_=>⟨hq,λj f he=>h j f (by have:=J5P he;omega) he⟩;refine .bind λf hf=>.bind λb hb=>.nof (λn=>?_) λ_=>.some nofun;subst n;have:=Jg i 1;have o:z=z/\0<=J1 .i64 i 1/\ ∀(j:Nat) (f:Ju),(j:Int)<J1 .i64 i 1->z[j]?=some f->J2l f=some true:=by
   refine⟨rfl,oo,λj g hj he=>?_⟩;by_cases hl:(j:Int)<i
   ·exact h j g hl he
   ·have:j=i.toNat:=by omega
    subst this;rw[(J40 hf).2]at he;injection he with he;subst he
    exact hb
  exact .gt (λ_=>.bind λ_ _=>.bind λ_ _=>.ge (λ_=>.some nofun) λ_=>.some o) λ_=>.some o
 exact k _ e rfl
theorem J2C{x:List Ju}{y:Bool}(h:Ty.fit B S (.l Jl) x)(e:J0Z x=some y)(c:y=true):(J0 x<=64)/\Ty.fit 4096 0 (.l Jl) x:=by
 subst c;obtain⟨q,k⟩:=JyD e;refine⟨q,?_,λa ha=>?_⟩
 ·show J0 x<=4096;omega
 obtain⟨j,hj⟩:=JgI.1 ha;have w:=Jx7 (k j a hj);obtain⟨h1,h2,h3,h4,h5,g⟩:=h.2 a ha;refine⟨h1,h2,h3,h4,⟨?_,h5.2⟩,?_,g.2⟩
 ·show J0 _<=4096;omega
 ·show J0 _<=4096;omega
theorem J4m{x:List T_api_Row}{y:Bool}(h:Ty.fit B S (.l Jc) x)(e:J1D x=some y)(c:y=true):(1<=J0 x/\J0 x<=64)/\Ty.fit 64 0 (.l Jc) x:=by
 subst c;have g:Par (J1D x) λy=>y=true->(1<=J0 x/\J0 x<=64):=by unfold J1D;exact .ltf (λ_=>.gt (λ_=>.some nofun) λ_ _ _ _=>by omega) λ_=>.some nofun
 have q:=g _ e rfl;exact⟨q,q.2,λa ha=>h.2 a ha⟩
theorem Joh{l:List T_api_Row}{p:Int}(e:J1L (l,p)=some true)(hp:1<=p)(n:p<=64):J0 l<=p/\ ∀(j:Nat) (f:T_api_Row),l[j]?=some f->(j:Int)<=f.1/\f.1<p:=by
 have o:Par (J1L (l,p)) λy=>y=true->J0 l<=p/\ ∀(j:Nat) (f:T_api_Row),l[j]?=some f->(j:Int)<=f.1/\f.1<p:=by
  unfold J1L;refine .while (λz=>z.1=l/\z.2.1=p/\0<=z.2.2/\z.2.2<=p/\ ∀(j:Nat) (f:T_api_Row),(j:Int)<z.2.2->l[j]?=some f->(j:Int)<=f.1/\f.1<p) ⟨rfl,rfl,J0D _,by dsimp only;omega,λj e h1=>by dsimp only at h1;omega⟩ ?_;rintro⟨l,p,i⟩ ⟨rfl,rfl,r,k,h⟩;dsimp only at r h k hp n;unfold J6w;dsimp only;refine .lt (λc=>?_) λc=>.some λ_=>⟨oo,λj f he=>h j f (by have:=J5P he;omega) he⟩;refine .bind λf hf=>.ltf (λA=>.gef (λB=>.ltf (λ_=>.gtf (λ_=>.gtf (λ_=>?_) λ_=>.some nofun) λ_=>.some nofun) λ_=>.some nofun) λ_=>.some nofun) λ_=>.some nofun;have:=Jg i 1;have:=J0H i 1;have q:i<=f.1->(l=l/\p=p/\0<=J1 .i64 i 1/\J1 .i64 i 1<=p/\ ∀(j:Nat) (f:T_api_Row),(j:Int)<J1 .i64 i 1->l[j]?=some f->(j:Int)<=f.1/\f.1<p):=by
   intro w;refine⟨rfl,rfl,oo,oo,λj g hj he=>?_⟩;by_cases hl:(j:Int)<i
   ·exact h j g hl he
   ·have:j=i.toNat:=by omega
    subst this;rw[(J40 hf).2]at he;injection he with he;subst he
    omega
  refine .gt (λx=>.bind λv h4=>.ge (λ_=>.some nofun) λC=>.some (q ?_)) λ_=>.some (q oo);obtain⟨_,h5⟩:=J40 h4;have:=h _ v oo h5;omega
 exact o _ e rfl
end
section
variable {B S:Int}
def Has(l:List Ju)(id:Int):Prop:= ∃j,J0P (l,id)=some j/\0<=j
def InP(p:J00)(id:Int):Prop:= ∃j,J1p (p,id)=some j/\0<=j
theorem JqZ{l:List Ju}{id y:Int}(h:Has l id)(e:J0P (l,id)=some y):0<=y:=by obtain⟨j,h,g⟩:=h;rw[h]at e;injection e with e;omega
theorem Jrd{p:J00}{id y:Int}(h:InP p id)(e:J1p (p,id)=some y):0<=y:=by obtain⟨j,h,g⟩:=h;rw[h]at e;injection e with e;omega
theorem JgB{p:J00}{id:Int}{y:JW×Bool}(e:J2W (p,id)=some y):(y.2=true->InP p id)/\(InP p id->y.2=true):=by
 have g:Par (J2W (p,id)) λy=>(y.2=true->InP p id)/\(InP p id->y.2=true):=by unfold J2W;refine .bind λj hj=>.lt (λc=>.some ⟨nofun,λh=>by have:=Jrd h hj;omega⟩) λc=>.bind λf hf=>.some ⟨λ_=>⟨j,hj,oo⟩,λ_=>rfl⟩
 exact g _ e
end
section
variable {B S:Int}
theorem Jpp(n:Nat)(h:n<2^64):IntKind.wrap .u64 (n:Int)=(n:Int):=by
 have:(n:Int)<18446744073709551616:=by omega
 simp[IntKind.wrap,IntKind.bits,IntKind.signed];omega
theorem JON{x y:Int}{k:Nat}(hk:k<=64)(hx:0<=x)(g:x<2^k)(hy:0<=y)(h:y<2^k):0<=orI .u64 x y/\orI .u64 x y<2^k:=by
 obtain⟨m,rfl⟩:=Int.eq_ofNat_of_zero_le hx;obtain⟨n,rfl⟩:=Int.eq_ofNat_of_zero_le hy;have e:((2:Int)^k)=((2^k:Nat):Int):=by simp
 rw[e]at g h⊢;have hm:m<2^k:=by omega
 have hn:n<2^k:=by omega
 have r:2^k<=2^64:=JAC (by decide) hk;have q: ∀z:Nat,z<2^k->(BitVec.ofInt 64 (z:Int)).toNat=z:=λz hz=>by rw[BitVec.toNat_ofInt];omega
 show 0<=IntKind.wrap .u64 (((BitVec.ofInt 64 (m:Int)|||BitVec.ofInt 64 (n:Int)).toNat:Nat):Int)/\_;have o:=Nat.or_lt_two_pow hm hn;have e2:orI .u64 (m:Int) (n:Int)=((m|||n:Nat):Int):=by show IntKind.wrap .u64 (((BitVec.ofInt 64 (m:Int)|||BitVec.ofInt 64 (n:Int)).toNat:Nat):Int)=_;rw[BitVec.toNat_or,q m hm,q n hn,Jpp _ oo]
 have j:IntKind.wrap .u64 (((BitVec.ofInt 64 (m:Int)|||BitVec.ofInt 64 (n:Int)).toNat:Nat):Int)=((m|||n:Nat):Int):=e2;rw[e2,j];omega
theorem JF4{s:List UInt8}{at_ size:Int}{y:JI}(e:J0x (s,at_,size)=some y)(c:y.2=0):0<=at_/\at_<=J0 s/\size<=J0 s-at_/\1<=size/\size<=8/\(size<=4->0<=y.1/\y.1<2^(8*size.toNat)):=by
 have k:Par (J0x (s,at_,size)) λy=>y.2=0->(-9223372036854775808<=J0 s-at_->J0 s-at_<=9223372036854775807->size<=J0 s-at_)/\0<=at_/\at_<=J0 s/\1<=size/\size<=8/\(size<=4->0<=y.1/\y.1<2^(8*size.toNat)):=by
  unfold J0x;dsimp only;refine .ltf (λH=>.gtf (λJ=>.lt (λ_=>.some nofun) λK=>.gtf (λI=>.lt (λ_=>.some nofun) λL=>?_) λ_=>.some nofun) λ_=>.some nofun) λ_=>.some nofun;have o:=J0H (J0 s) at_;refine .while (λz=>z.1=s/\z.2.1=at_/\z.2.2.1=size/\0<=z.2.2.2.2/\z.2.2.2.2<=size/\0<=z.2.2.2.1/\z.2.2.2.1<2^(8*z.2.2.2.2.toNat)) ⟨rfl,rfl,rfl,J0D _,by dsimp only;omega,J0D _,by show(0:Int)<2^(8*0);decide⟩ ?_;rintro⟨s,at_,size,n,i⟩ ⟨h1,h2,h3,r,h4,h5,g⟩;dsimp only at h1 h2 h3;subst h1;subst h2;subst h3;dsimp only at r h4 h5 g;unfold Jc7;dsimp only;have:=Jg i 1;refine .lt (λc=>?_) λc=>.some λ_=>⟨λ_ _=>by omega,oo,oo,oo,oo,λh=>?_⟩
  ·refine .bind λb hb=>.bind λj hy=>.some ⟨rfl,rfl,rfl,?_,?_,?_⟩
   ·show 0<=J1 .i64 i 1;omega
   ·show J1 .i64 i 1<=size;omega
   have F:0<=b/\b<=255:=by
    unfold Jow at hb;split at hb
    ·cases hx:s[(J1 .i64 at_ i).toNat]? with
     |none=>rw[hx]at hb;cases hb
     |some u=>
      rw[hx]at hb;injection hb with hb;subst hb
      have:=u.toNat_lt;omega
    ·cases hb
   have hi:(J1 .i64 i 1).toNat=i.toNat+1:=by omega
   show 0<=orI .u64 n j/\orI .u64 n j<2^(8*(J1 .i64 i 1).toNat);rw[hi];have:=JLS 8 i;have B:cvI .u64 (J3f .i64 8 i)=8*i:=by rw[show J3f .i64 8 i=((8*i.toNat:Nat):Int) by omega];show IntKind.wrap .u64 _=_;rw[Jpp _ oo];omega
   have x:cvI .u64 b=b:=by rw[show b=((b.toNat:Nat):Int) by omega];exact Jpp _ oo
   rw[B,x]at hy;unfold JrM at hy;rw[if_neg oo]at hy;injection hy with hy;have hm:min (8*i).toNat IntKind.u64.bits=8*i.toNat:=by show min (8*i).toNat 64=_;omega
   rw[hm]at hy;have hp:((2:Int)^(8*i.toNat))=((2^(8*i.toNat):Nat):Int):=by simp
   have D:b.toNat*2^(8*i.toNat)<2^(8*(i.toNat+1)):=by rw[show 8*(i.toNat+1)=8+8*i.toNat by omega,Nat.pow_add];exact Nat.mul_lt_mul_of_pos_right oo (Nat.pow_pos (by decide))
   have G:2^(8*(i.toNat+1))<=2^64:=JAC (by decide) oo;have q:j=((b.toNat*2^(8*i.toNat):Nat):Int):=by rw[<-hy,hp,show b*((2^(8*i.toNat):Nat):Int)=((b.toNat*2^(8*i.toNat):Nat):Int) by rw[Int.natCast_mul];congr 1;omega];exact Jpp _ oo
   have hn:n<2^(8*(i.toNat+1)):=Int.lt_of_lt_of_le g (by have:(2:Nat)^(8*i.toNat)<=2^(8*(i.toNat+1)):=JAC (by decide) oo;rw[hp,show((2:Int)^(8*(i.toNat+1)))=((2^(8*(i.toNat+1)):Nat):Int) by simp];omega)
   refine JON oo h5 hn (by rw[q];omega) ?_;rw[q,show((2:Int)^(8*(i.toNat+1)))=((2^(8*(i.toNat+1)):Nat):Int) by simp];omega
  ·have hi:i.toNat=size.toNat:=by omega
   rw[hi]at g;have E:(2:Nat)^(8*size.toNat)<=2^32:=JAC (by decide) oo;have hp:((2:Int)^(8*size.toNat))=((2^(8*size.toNat):Nat):Int):=by simp
   rw[hp]at g;have:=JK1 n;show 0<=cvI .i64 n/\cvI .i64 n<2^(8*size.toNat);rw[hp];omega
 obtain⟨k1,k2,v,C,w,A⟩:=k _ e c;have:=J3 (l:=s);exact⟨k2,v,by
  by_cases h:J0 s-at_<=9223372036854775807
  ·exact k1 oo h
  ·omega,C,w,A⟩
theorem J6R{x:J0C}{y:JI}(h:Ty.fit B S JA x)(e:J0x x=some y)(c:y.2=0):(1<=x.2.2/\x.2.2<=8/\0<=x.2.1/\x.2.1<=J0 x.1/\x.2.2<=J0 x.1-x.2.1/\(x.2.2<=4->0<=y.1/\y.1<=4294967295)/\(x.2.2=1->y.1<=255)/\(x.2.2=2->y.1<=65535))/\True:=by
 obtain⟨s,at_,size⟩:=x;obtain⟨h1,h2,h3,h4,h5,g⟩:=JF4 e c;dsimp only;refine⟨⟨h4,h5,h1,h2,h3,λh=>?_,λh=>?_,λh=>?_⟩,trivial⟩
 ·obtain⟨a,b⟩:=g h;refine⟨a,?_⟩;have j:(2:Nat)^(8*size.toNat)<=2^32:=JAC (by decide) oo;rw[show((2:Int)^(8*size.toNat))=((2^(8*size.toNat):Nat):Int) by simp]at b;omega
 ·subst h;obtain⟨a,b⟩:=g (by decide);have:y.1<256:=b;omega
 ·subst h;obtain⟨a,b⟩:=g (by decide);have:y.1<65536:=b;omega
end
section
variable {B S:Int}
theorem JOp(k:Nat): ∀{n at_:Int} {l:List Int},Ty.fit B S (.l (.i .u8)) l->Ty.fit 0 0 (.i .i64) n->0<=at_->Ty.fit 0 0 (.i .i64) at_->B<=4611686018427387903->(n<=256->1<=k)->(¬n<=256->2<=k)->Tot (JgA J3r k (n,l,at_)) λy=>Ty.fit B S tq9 y/\(0<=y.1/\(1<=n->y.1<n)/\0<=y.2.2):=by
 induction k with
 |zero=>intro n at_ l h1 h2 h3 h4 h5 A o;omega
 |succ k ih=>
  intro n at_ l h1 h2 h3 h4 h5 A o;show Tot (J3r (JgA J3r k) (n,l,at_)) _;unfold J3r;dsimp only;have:=Jg at_ 1;have:J0 l<=B:=h1.1;refine .gef (λc=>.lt (λq=>.some ⟨⟨fk0,h1,h4⟩,J0D _,λc=>by omega,h3⟩) λq=>.bind (Jh h1 h3 (by show at_<J0 l;omega)) λe z=>?_) λc=>.some ⟨⟨fk0,h1,h4⟩,J0D _,λc=>c,h3⟩;have q2:=(JCo (B:=B) (S:=S)).1 z.1;have:=JK1 e;have g:Ty.fit 0 0 (.i .i64) (J1 .i64 at_ 1):=J5;refine .gt (λv=>.bind (ih (n:=256) h1 (fkn 256) oo g h5 (λ_=>by omega) λc=>by omega) λj h=>?_) λv=>?_
  ·have r:=h.2.2.1 (by decide);have:=JLS 256 (cvI .i64 e);have:=Jg (J3f .i64 256 (cvI .i64 e)) j.1;exact .bind (JAy (k:=.i64) (B:=B) (S:=S) (x:=J1 .i64 (J3f .i64 256 (cvI .i64 e)) j.1) (y:=n) J5 oo) λw f4=>.some ⟨⟨f4.1,h.1.2⟩,f4.2.1 oo,λ_=>f4.2.2 oo,h.2.2.2⟩
  ·exact .bind (JAy (k:=.i64) (B:=B) (S:=S) (x:=cvI .i64 e) (y:=n) Jex oo) λw f4=>.some ⟨⟨f4.1,h1,g⟩,f4.2.1 oo,λ_=>f4.2.2 oo,by show 0<=J1 .i64 at_ 1;omega⟩
theorem Jo{x1:JaY}(h:Ty.fit B S tq9 x1)(p0:0<=x1.2.2)(g:BS B S 0 0:=by omega)(e:B<=4611686018427387903:=by omega):Tot (Jn x1) λy=>Ty.fit B S tq9 y/\(0<=y.1/\(1<=x1.1->y.1<x1.1)/\0<=y.2.2):=by obtain⟨n,l,a⟩:=x1;exact JOp (B:=B) (S:=S) 100 h.2.1 h.1 p0 h.c e (λ_=>by decide) λ_=>by decide
end
theorem JGt{B S:Int}{x1:Jz}(h:Ty.fit B S J6 x1)(p0:0<=x1.2)(g:BS B S 0 0:=by omega):Tot (J6o x1) λy=>Ty.fit B S J6 y/\(y.2=0):=by
 unfold J6o;refine .gt (λe=>?_) λe=>?_
 ·refine .bind (J5M h.1) λj h5=>.some ⟨(⟨h5.1,fk0⟩),om⟩
 ·exact .some ⟨(⟨h.1,fk0⟩),om⟩
section
end
theorem J8n{B S:Int}{x1:Jz}(h:Ty.fit B S J6 x1)(p0:0<=x1.2)(a9:BG B S:=by omega):Tot (J3s x1) λy=>Ty.fit B S (.pr .s J6) y/\(0<=y.2.2/\J0 y.1<=13):=by
 unfold J3s;refine .bind (Jo (B:=B) (S:=S) (⟨fkn 5,h⟩) om) λv h2=>?_;have:=J2.1 h2.1.1;have:=J2.1 h2.1.c;have:0<=v.1/\v.1<5/\0<=v.2.2:=⟨h2.2.1,h2.c.1 (show(1:Int)<=5 by decide),h2.d⟩;refine .bind (Jo (B:=B) (S:=S) (⟨fkn 6,h2.1.2⟩) om) λy3 K=>?_;have:=J2.1 K.1.c;refine .eq (λU=>?_) λU=>?_
 ·refine .bind (Jo (B:=B) (S:=S) (⟨fkn 14,K.1.2⟩) om) λk j=>?_;have:=J2.1 j.1.1;have:=J2.1 j.1.c;have:0<=k.1/\k.1<14/\0<=k.2.2:=⟨j.2.1,j.c.1 (show(1:Int)<=14 by decide),j.d⟩;refine .bind (JB1 (t:=(.i .u8)) (B:=0) (S:=0) (JcZ .u8 0)) λP G=>Jb (τ:=JO8) (λq=>(k.1,q.1,q.2.1,q.2.2)) (λq=>Ty.fit 0 0 (.i .i64) q.1/\Ty.fit B S J6 q.2.1/\Ty.fit 13 0 (.l (.i .u8)) q.2.2/\(0<=q.1)/\(q.1<=k.1)/\(0<=q.2.1.2)/\(J0 q.2.2<=q.1)) (λq=>k.1-q.1) ?_ (0,k.2,P) rfl ?_
  ·rintro⟨w,a1,g⟩ I;dsimp only at I;obtain⟨M,A,r,z20,a7,z22,a3⟩:=I;unfold JaR
   try dsimp only
   have:=J2.1 M;have:=J2.1 A.2;have:J0 g<=13:=r.1;have:=J3 (l:=g);refine .lt (λT=>?_) λT=>?_
   ·refine .bind (Jo (B:=B) (S:=S) (⟨fkn 3,A⟩) om) λy7 H=>?_;have:=J2.1 H.1.c;refine .bind (J0q (B:=14) (Bl:=13) (Bm:=1) (S:=0) (J0 g) 1 r (J0f (B:=1) (S:=0) (t:=(.i .u8)) oo Jex)) λJ Q=>?_;have W:Ty.fit 13 0 (.l (.i .u8)) J:=⟨(by omega:J0 J<=13),λx hx=>Q.1.2 x hx⟩;have:=Jg w 1;exact .some ⟨(J1 .i64 w 1,y7.2,J),rfl,⟨J5,H.1.2,W,om,om,om,om⟩,om,om⟩
   ·have:J0 (toStr g)<=13:=(J7L▸r.1);have:=J3 (l:=toStr g);exact .some ⟨(⟨(Jgu (B:=0) (S:=13) r.1).u,A⟩),om⟩
  ·have:J0 P<=0:=G.1.1
   try dsimp only
   exact⟨fk0,j.1.2,G.1.u,om,om,om,om⟩
 ·refine .bind (JB1 (t:=(.i .u8)) (B:=0) (S:=0) (JcZ .u8 0)) λV E=>Jb (τ:=JO8) (λq=>(v.1,q.1,q.2.1,q.2.2)) (λq=>Ty.fit 0 0 (.i .i64) q.1/\Ty.fit B S J6 q.2.1/\Ty.fit 13 0 (.l (.i .u8)) q.2.2/\(0<=q.1)/\(q.1<=v.1)/\(0<=q.2.1.2)/\(J0 q.2.2<=q.1)) (λq=>v.1-q.1) ?_ (0,y3.2,V) rfl ?_
  ·rintro⟨o,Z,e⟩ D;dsimp only at D;obtain⟨L,C,n,a8,a6,a4,a5⟩:=D;unfold JaX
   try dsimp only
   have:=J2.1 L;have:=J2.1 C.2;have:J0 e<=13:=n.1;have:=J3 (l:=e);refine .lt (λR=>?_) λR=>?_
   ·refine .bind (Jo (B:=B) (S:=S) (⟨fkn 3,C⟩) om) λY F=>?_;have:=J2.1 F.1.c;refine .bind (J0q (B:=14) (Bl:=13) (Bm:=1) (S:=0) (J0 e) 1 n (J0f (B:=1) (S:=0) (t:=(.i .u8)) oo Jex)) λz O=>?_;have N:Ty.fit 13 0 (.l (.i .u8)) z:=⟨(by omega:J0 z<=13),λx hx=>O.1.2 x hx⟩;have:=Jg o 1;exact .some ⟨(J1 .i64 o 1,Y.2,z),rfl,⟨J5,F.1.2,N,om,om,om,om⟩,om,om⟩
   ·have:J0 (toStr e)<=13:=(J7L▸n.1);have:J0 (toStr e)=J0 e:=J7L;exact .some ⟨(⟨(Jgu (B:=0) (S:=13) n.1).u,C⟩),om⟩
  ·have:J0 V<=0:=E.1.1
   try dsimp only
   exact⟨fk0,K.1.2,E.1.u,om,om,om,om⟩
theorem J0K{B S:Int}{x1:Jz}(h:Ty.fit B S J6 x1)(p0:0<=x1.2)(v:BG B S:=by omega):Tot (J0n x1) λy=>Ty.fit B S tq9 y/\(0<=y.2.2):=by
 unfold J0n;refine .bind (Jo (B:=B) (S:=S) (⟨fkn 10,h⟩) om) λA h2=>?_;have:=J2.1 h2.1.c;refine .eq (λr=>?_) λr=>?_
 ·refine .bind (Jo (B:=B) (S:=S) (⟨fkn 3,h2.1.2⟩) om) λw n=>?_;have:=J2.1 n.1.c;exact .some ⟨(⟨J22,n.1.2⟩),om⟩
 ·refine .eq (λk=>?_) λk=>?_
  ·refine .bind (Jo (B:=B) (S:=S) (⟨fkn 16,h2.1.2⟩) om) λj e=>?_;have:=J2.1 e.1.1;have:=J2.1 e.1.c;have:0<=j.1/\j.1<16/\0<=j.2.2:=⟨e.2.1,e.c.1 (show(1:Int)<=16 by decide),e.d⟩;refine .bind (Jh (J0S (B:=16) (S:=0) (t:=(.i .i64)) (by have q:((16:Nat):Int)<=16:=oo;exact q) (fkn 9223372036854775807) (J0S (B:=16) (S:=0) (t:=(.i .i64)) (by have q:((15:Nat):Int)<=16:=oo;exact q) (fkn (-9223372036854775808)) (J0S (B:=16) (S:=0) (t:=(.i .i64)) (by have q:((14:Nat):Int)<=16:=oo;exact q) (fkn 1099511627776) (J0S (B:=16) (S:=0) (t:=(.i .i64)) (by have q:((13:Nat):Int)<=16:=oo;exact q) (fkn 1099511627777) (J0S (B:=16) (S:=0) (t:=(.i .i64)) (by have q:((12:Nat):Int)<=16:=oo;exact q) (fkn 1073741824) (J0S (B:=16) (S:=0) (t:=(.i .i64)) (by have q:((11:Nat):Int)<=16:=oo;exact q) (fkn 1073741825) (J0S (B:=16) (S:=0) (t:=(.i .i64)) (by have q:((10:Nat):Int)<=16:=oo;exact q) (fkn 64) (J0S (B:=16) (S:=0) (t:=(.i .i64)) (by have q:((9:Nat):Int)<=16:=oo;exact q) (fkn 63) (J0S (B:=16) (S:=0) (t:=(.i .i64)) (by have q:((8:Nat):Int)<=16:=oo;exact q) (fkn 16) (J0S (B:=16) (S:=0) (t:=(.i .i64)) (by have q:((7:Nat):Int)<=16:=oo;exact q) (fkn 15) (J0S (B:=16) (S:=0) (t:=(.i .i64)) (by have q:((6:Nat):Int)<=16:=oo;exact q) (fkn 256) (J0S (B:=16) (S:=0) (t:=(.i .i64)) (by have q:((5:Nat):Int)<=16:=oo;exact q) (fkn 255) (J0S (B:=16) (S:=0) (t:=(.i .i64)) (by have q:((4:Nat):Int)<=16:=oo;exact q) (fkn 4294967296) (J0S (B:=16) (S:=0) (t:=(.i .i64)) (by have q:((3:Nat):Int)<=16:=oo;exact q) (fkn 65536) (J0S (B:=16) (S:=0) (t:=(.i .i64)) (by have q:((2:Nat):Int)<=16:=oo;exact q) (fkn 256) (J0S (B:=16) (S:=0) (t:=(.i .i64)) (by have q:((1:Nat):Int)<=16:=oo;exact q) (fkn 255) Ja)))))))))))))))) oo (show _<((16:Nat):Int) by omega)) λx o=>.some ⟨(⟨o.1,e.1.2⟩),om⟩
  ·refine .bind (Jo (B:=B) (S:=S) (⟨fkn 20,h2.1.2⟩) om) λz g=>?_;have:=J2.1 g.1.c;exact .some ⟨(g.1),om⟩
theorem JaU{B S:Int}{x1:JaY}(h:Ty.fit B S tq9 x1)(p0:0<=x1.2.2)(be:BG B S:=by omega):Tot (J3C x1) λy=>Ty.fit B S (.pr J0o J6) y/\(0<=y.2.2):=by
 unfold J3C;refine .bind (Jo (B:=B) (S:=S) (⟨fkn 12,h.2⟩) om) λy2 h2=>?_;have:=J2.1 h2.1.1;have:=J2.1 h2.1.c;have:0<=y2.1/\y2.1<12/\0<=y2.2.2:=⟨h2.2.1,h2.c.1 (show(1:Int)<=12 by decide),h2.d⟩;refine .bind (Jh (J0S (B:=12) (S:=0) (t:=(.i .i64)) (by have q:((12:Nat):Int)<=12:=oo;exact q) (fkn 1) (J0S (B:=12) (S:=0) (t:=(.i .i64)) (by have q:((11:Nat):Int)<=12:=oo;exact q) (fkn 1) (J0S (B:=12) (S:=0) (t:=(.i .i64)) (by have q:((10:Nat):Int)<=12:=oo;exact q) (fkn 2) (J0S (B:=12) (S:=0) (t:=(.i .i64)) (by have q:((9:Nat):Int)<=12:=oo;exact q) (fkn 2) (J0S (B:=12) (S:=0) (t:=(.i .i64)) (by have q:((8:Nat):Int)<=12:=oo;exact q) (fkn 2) (J0S (B:=12) (S:=0) (t:=(.i .i64)) (by have q:((7:Nat):Int)<=12:=oo;exact q) (fkn 3) (J0S (B:=12) (S:=0) (t:=(.i .i64)) (by have q:((6:Nat):Int)<=12:=oo;exact q) (fkn 4) (J0S (B:=12) (S:=0) (t:=(.i .i64)) (by have q:((5:Nat):Int)<=12:=oo;exact q) (fkn 5) (J0S (B:=12) (S:=0) (t:=(.i .i64)) (by have q:((4:Nat):Int)<=12:=oo;exact q) (fkn 6) (J0S (B:=12) (S:=0) (t:=(.i .i64)) (by have q:((3:Nat):Int)<=12:=oo;exact q) (fkn 7) (J0S (B:=12) (S:=0) (t:=(.i .i64)) (by have q:((2:Nat):Int)<=12:=oo;exact q) (fkn 2) (J0S (B:=12) (S:=0) (t:=(.i .i64)) (by have q:((1:Nat):Int)<=12:=oo;exact q) (fkn 4) Ja)))))))))))) oo (show _<((12:Nat):Int) by omega)) λy3 e=>.eq (λc7=>?_) λc7=>?_
 ·refine .bind (Jo (B:=B) (S:=S) (⟨h.1,h2.1.2⟩) om) λy4 h9=>?_;have:=J2.1 h9.1.c;refine .bind (Jo (B:=B) (S:=S) (⟨fkn 2,h9.1.2⟩) om) λy5 j=>?_;have:=J2.1 j.1.c;refine .eq (λal=>?_) λal=>?_
  ·refine .bind (J8n j.1.2 om) λy6 a4=>.bind (Jdq a4.1.1.z) λy7 ao=>?_;have a3:Ty.fit 0 S .s y7:=ao.1;refine .bind (Jo (B:=B) (S:=S) (⟨fkn 40,a4.1.2⟩) om) λy8 a5=>.eq (λb1=>?_) λb1=>?_
   ·refine .bind (J0K a5.1.2 om) λy9 V=>?_;have:0<=y9.2.2:=V.2;refine .bind (J0K V.1.2 om) λaf K=>?_;have:0<=af.2.2:=K.2;exact .some ⟨(⟨⟨e.1,V.1.1,K.1.1,a3.u⟩,K.1.2⟩),om⟩
   ·exact .some ⟨(⟨⟨e.1,h9.1.1,j.1.1,a3.u⟩,a5.1.2⟩),om⟩
  ·refine .bind (Jo (B:=B) (S:=S) (⟨fkn 40,j.1.2⟩) om) λbd R=>?_;have:=J2.1 R.1.c;refine .eq (λai=>?_) λai=>?_
   ·refine .bind (J0K R.1.2 om) λah P=>?_;have:0<=ah.2.2:=P.2;refine .bind (J0K P.1.2 om) λb2 N=>?_;have:0<=b2.2.2:=N.2;exact .some ⟨(⟨⟨e.1,P.1.1,N.1.1,Jd⟩,N.1.2⟩),om⟩
   ·exact .some ⟨(⟨⟨e.1,h9.1.1,j.1.1,Jd⟩,R.1.2⟩),om⟩
 ·refine .eq (λb6=>?_) λb6=>?_
  ·refine .bind (Jo (B:=B) (S:=S) (⟨h.1,h2.1.2⟩) om) λbm I=>?_;have:=J2.1 I.1.c;refine .bind (Jo (B:=B) (S:=S) (⟨fkn 2,I.1.2⟩) om) λbp k=>?_;have:=J2.1 k.1.c;refine .eq (λak=>?_) λak=>?_
   ·refine .bind (J8n k.1.2 om) λa6 Y=>?_;have:=J2.1 Y.1.c;have:=J3 (l:=a6.1);have:=JG9 (J0 a6.1) 12;refine .bind (Jdq Y.1.1.z) λay au=>?_;have a2:Ty.fit 0 S .s ay:=au.1;refine .bind (Jo (B:=B) (S:=S) (⟨fkn 40,Y.1.2⟩) om) λbi W=>?_;have:=J2.1 W.1.c;refine .eq (λax=>?_) λax=>?_
    ·refine .bind (J0K W.1.2 om) λaz U=>?_;have:0<=az.2.2:=U.2;refine .bind (J0K U.1.2 om) λb5 a0=>?_;have:0<=b5.2.2:=a0.2;exact .some ⟨(⟨⟨e.1,U.1.1,a0.1.1,a2.u⟩,a0.1.2⟩),om⟩
    ·exact .some ⟨(⟨⟨e.1,I.1.1,k.1.1,a2.u⟩,W.1.2⟩),om⟩
   ·refine .bind (Jo (B:=B) (S:=S) (⟨fkn 40,k.1.2⟩) om) λZ g=>?_;have:=J2.1 g.1.1;have:=J2.1 g.1.c;have:0<=Z.1/\Z.1<40/\0<=Z.2.2:=⟨g.2.1,g.c.1 (show(1:Int)<=40 by decide),g.d⟩;refine .eq (λan=>?_) λan=>?_
    ·refine .bind (J0K g.1.2 om) λav T=>?_;have:0<=av.2.2:=T.2;refine .bind (J0K T.1.2 om) λb4 M=>?_;have:0<=b4.2.2:=M.2;exact .some ⟨(⟨⟨e.1,T.1.1,M.1.1,Jd⟩,M.1.2⟩),om⟩
    ·exact .some ⟨(⟨⟨e.1,I.1.1,k.1.1,Jd⟩,g.1.2⟩),om⟩
  ·refine .eq (λb7=>?_) λb7=>?_
   ·refine .bind (Jo (B:=B) (S:=S) (⟨h.1,h2.1.2⟩) om) λbh J=>?_;have:=J2.1 J.1.c;refine .bind (Jo (B:=B) (S:=S) (⟨fkn 2,J.1.2⟩) om) λbo n=>?_;have:=J2.1 n.1.c;refine .eq (λad=>?_) λad=>?_
    ·refine .bind (J8n n.1.2 om) λbc Q=>.bind (Jdq Q.1.1.z) λaj a7=>?_;have O:Ty.fit 0 S .s aj:=a7.1;refine .bind (Jo (B:=B) (S:=S) (⟨fkn 40,Q.1.2⟩) om) λbq L=>.eq (λab=>?_) λab=>?_
     ·refine .bind (J0K L.1.2 om) λaw o=>?_;have:0<=aw.2.2:=o.2;refine .bind (J0K o.1.2 om) λaq D=>?_;have:0<=aq.2.2:=D.2;exact .some ⟨(⟨⟨e.1,o.1.1,D.1.1,O.u⟩,D.1.2⟩),om⟩
     ·exact .some ⟨(⟨⟨e.1,J.1.1,n.1.1,O.u⟩,L.1.2⟩),om⟩
    ·refine .bind (Jo (B:=B) (S:=S) (⟨fkn 40,n.1.2⟩) om) λbg A=>?_;have:=J2.1 A.1.c;refine .eq (λa9=>?_) λa9=>?_
     ·refine .bind (J0K A.1.2 om) λam C=>?_;have:0<=am.2.2:=C.2;refine .bind (J0K C.1.2 om) λb0 x=>?_;have:0<=b0.2.2:=x.2;exact .some ⟨(⟨⟨e.1,C.1.1,x.1.1,Jd⟩,x.1.2⟩),om⟩
     ·exact .some ⟨(⟨⟨e.1,J.1.1,n.1.1,Jd⟩,A.1.2⟩),om⟩
   ·refine .eq (λaa=>?_) λaa=>?_
    ·refine .bind (Jo (B:=B) (S:=S) (⟨fkn 2,h2.1.2⟩) om) λbn G=>?_;have:=J2.1 G.1.c;refine .bind (Jo (B:=B) (S:=S) (⟨fkn 40,G.1.2⟩) om) λbf r=>?_;have:=J2.1 r.1.c;refine .eq (λa8=>?_) λa8=>?_
     ·refine .bind (J0K r.1.2 om) λb3 E=>?_;have:0<=b3.2.2:=E.2;refine .bind (J0K E.1.2 om) λb8 H=>?_;have:0<=b8.2.2:=H.2;exact .some ⟨(⟨⟨e.1,E.1.1,H.1.1,Jd⟩,H.1.2⟩),om⟩
     ·exact .some ⟨(⟨⟨e.1,fk0,G.1.1,Jd⟩,r.1.2⟩),om⟩
    ·refine .bind (Jo (B:=B) (S:=S) (⟨fkn 40,h2.1.2⟩) om) λbj v=>?_;have:=J2.1 v.1.c;refine .eq (λac=>?_) λac=>?_
     ·refine .bind (J0K v.1.2 om) λag w=>?_;have:0<=ag.2.2:=w.2;refine .bind (J0K w.1.2 om) λap F=>?_;have:0<=ap.2.2:=F.2;exact .some ⟨(⟨⟨e.1,w.1.1,F.1.1,Jd⟩,F.1.2⟩),om⟩
     ·exact .some ⟨(⟨⟨e.1,fzr⟩,v.1.2⟩),om⟩
theorem JpE{B S:Int}{x1:JHd}(h:Ty.fit B S (.pr (.i .i64) JGR) x1)(p0:0<=x1.2.2.2.2)(K:BG B S:=by omega):Tot (J60 x1) λy=>Ty.fit B S (.pr J0R J6) y/\(0<=y.2.2):=by
 unfold J60;refine .bind (Jo (B:=B) (S:=S) (⟨fkn 16,h.d⟩) om) λR h2=>?_;have:=J2.1 h2.1.c;refine .eq (λI=>?_) λI=>?_
 ·exact .some ⟨(⟨⟨fkn 1,fzr⟩,h2.1.2⟩),om⟩
 ·refine .eq (λG=>?_) λG=>?_
  ·exact .some ⟨(⟨⟨fkn 1,fzr⟩,h2.1.2⟩),om⟩
  ·refine .eq (λF=>?_) λF=>?_
   ·refine .bind (Jo (B:=B) (S:=S) (⟨h.1,h2.1.2⟩) om) λM v=>?_;have:=J2.1 v.1.c;exact .some ⟨(⟨⟨fkn 3,fk0,v.1.1,fzr⟩,v.1.2⟩),om⟩
   ·refine .eq (λx=>?_) λx=>?_
    ·exact .some ⟨(⟨⟨fkn 4,fzr⟩,h2.1.2⟩),om⟩
    ·refine .eq (λC=>?_) λC=>?_
     ·exact .some ⟨(⟨⟨fkn 5,fzr⟩,h2.1.2⟩),om⟩
     ·refine .eq (λE=>?_) λE=>?_
      ·refine .ite (λw=>?_) λw=>?_
       ·refine .bind (Jo (B:=B) (S:=S) (⟨fkn 4,h2.1.2⟩) om) λQ r=>?_;have:=J2.1 r.1.c;refine .bind (Jo (B:=B) (S:=S) (⟨fkn 90,r.1.2⟩) om) λO n=>?_;have:=J2.1 n.1.c;refine .bind (Jo (B:=B) (S:=S) (⟨J5,n.1.2⟩) om) λP q=>?_;have:=J2.1 q.1.c;refine .bind (Jo (B:=B) (S:=S) (⟨fkn 257,q.1.2⟩) om) λL e=>?_;have:=J2.1 e.1.c;exact .some ⟨(⟨⟨fkn 6,fk0,J22,JMo,e.1.1,fzr⟩,e.1.2⟩),om⟩
       ·refine .bind (Jo (B:=B) (S:=S) (⟨h.2.1,h2.1.2⟩) om) λN k=>?_;have:=J2.1 k.1.c;refine .bind (JaU (B:=B) (S:=S) (⟨h.1,k.1.2⟩) om) λH g=>?_;have:0<=H.2.2:=g.2;exact .some ⟨(⟨⟨fkn 2,J5,fk0,fk0,fk0,g.1.1.z.u⟩,g.1.2⟩),om⟩
      ·refine .eq (λA=>?_) λA=>?_
       ·exact .some ⟨(⟨⟨fkn 7,fzr⟩,h2.1.2⟩),om⟩
       ·refine .bind (Jo (B:=B) (S:=S) (⟨h.2.1,h2.1.2⟩) om) λJ o=>?_;have:=J2.1 o.1.c;refine .bind (JaU (B:=B) (S:=S) (⟨h.1,o.1.2⟩) om) λD j=>?_;have:0<=D.2.2:=j.2;exact .some ⟨(⟨⟨fkn 2,J5,fk0,fk0,fk0,j.1.1.z.u⟩,j.1.2⟩),om⟩
theorem JhX{B S:Int}{x1:JHd}(h:Ty.fit B S (.pr (.i .i64) JGR) x1)(p0:0<=x1.2.2.2.2)(L:0<=x1.2.1)(K:x1.2.1<=1000)(J:BG B S:=by omega):Tot (J4a x1) λy=>Ty.fit B S (.pr (.l J0R) J6) y/\(0<=y.2.2):=by
 unfold J4a;refine .bind (Jo (B:=B) (S:=S) (⟨J5,h.d⟩) om) λj h3=>?_;have:=J2.1 h3.1.1;have:=Jg x1.2.1 1;have:=J2.1 h3.1.c;have:0<=j.1/\(1<=(J1 .i64 x1.2.1 1)->j.1<(J1 .i64 x1.2.1 1))/\0<=j.2.2:=h3.2;refine Jb (τ:=Int×Jz×(List J4C)) (λq=>(x1.1,x1.2.2.1,q.1,q.2.1,q.2.2)) (λq=>Ty.fit 0 0 (.i .i64) q.1/\Ty.fit B S J6 q.2.1/\Ty.fit 1003 S (.l J0R) q.2.2/\(0<=q.1)/\(0<=q.2.1.2)/\(J0 q.2.2+q.1<=1003)) (λq=>q.1) ?_ (j.1,j.2,[(1,0,0,0,0,0,0,0,[]),(1,0,0,0,0,0,0,0,[])]) rfl ?_
 ·rintro⟨k,F,e⟩ r;dsimp only at r;obtain⟨E,A,g,I,H,G⟩:=r;unfold J8k
  try dsimp only
  have:=J2.1 E;have:J0 e<=1003:=g.1;have:=J3 (l:=e);have:J0 e=_:=Jj g;refine .gt (λC=>?_) λC=>?_
  ·refine .bind (JpE (B:=B) (S:=S) (⟨h.1,fkn 5,trivial,A⟩) om) λD n=>?_;have:0<=D.2.2:=n.2;refine .bind (J0q (B:=1004) (Bl:=1003) (Bm:=1) (S:=S) (J0 e) 1 g (J0f (B:=1) (S:=S) (t:=J0R) oo (n.1.1.z.u))) λo v=>?_;have:J0 o=_:=Jj v.1;have w:Ty.fit 1003 S (.l J0R) o:=⟨(by omega:J0 o<=1003),λx hx=>v.1.2 x hx⟩;have:=J0H k 1;exact .some ⟨(JG .i64 k 1,D.2,o),rfl,⟨J22,n.1.2,w,om,om,om⟩,om,om⟩
  ·exact .some ⟨(⟨g.u,A⟩),om⟩
 ·try dsimp only
  exact⟨h3.1.1,h3.1.2,(J0S (B:=2) (S:=0) (t:=J0R) (by have q:((2:Nat):Int)<=2:=oo;exact q) (⟨fkn 1,fzr⟩) (J0S (B:=2) (S:=0) (t:=J0R) (by have q:((1:Nat):Int)<=2:=oo;exact q) (⟨fkn 1,fzr⟩) Ja)).u,om,om,by show((2:Nat):Int)+j.1<=1003;omega⟩
theorem Jup{B S x1:Int}(h:Ty.fit B S (.i .i64) x1)(p0:x1<=64)(x:BS B S 0 0:=by omega):Tot (J7Z x1) λy=>Ty.fit 64 256 (.l .s) y:=by
 unfold J7Z;have:=J2.1 h;refine Jb (τ:=Int×(List (List UInt8))) (λq=>(x1,q.1,q.2)) (λq=>(Ty.fit 0 0 (.i .i64) q.1/\0<=q.1/\(q.1<=x1\/q.1<=0))/\(Ty.fit 64 256 (.l .s) q.2/\J0 q.2<=1*q.1+0)) (λq=>x1-q.1) ?_ (0,[]) rfl ?_
 ·rintro⟨g,e⟩ j;dsimp only at j;obtain⟨⟨o,z,C⟩,k,D⟩:=j;unfold Jen
  try dsimp only
  have:=J2.1 o;refine .lt (λr=>?_) λr=>?_
  ·refine .bind (JB1 (t:=(.i .u8)) (B:=256) (S:=0) (JcZ .u8 0)) λA w=>?_;have:J0 e<=64:=k.1;have:=J3 (l:=e);refine .bind (J0q (B:=64) (Bl:=64) (Bm:=1) (S:=256) (J0 e) 1 k (J0f (B:=1) (S:=256) (t:=.s) oo ((Jgu (B:=0) (S:=256) w.1.1).u))) λv n=>?_;have:=Jg g 1;exact .some ⟨(J1 .i64 g 1,v),rfl,⟨⟨J5,om,om⟩,n.1,om⟩,om,om⟩
  ·exact .some k
 ·have:J0 ([]:List (List UInt8))=0:=rfl
  try dsimp only
  exact⟨⟨fk0,oo,oo⟩,Ja,oo⟩
end Go.Am
end
section
namespace Go.Am
set_option linter.unusedVariables false
set_option maxRecDepth 20000
set_option maxHeartbeats 4000000
theorem JFk{B S x1:Int}(h:Ty.fit B S (.i .i64) x1)(j:BS B S 0 0:=by omega):Tot (JbL x1) λy=>Ty.fit 64 256 JrE y:=by
 unfold JbL;have:=J2.1 h;refine .ltf (λg=>?_) λg=>?_
 ·refine .gt (λe=>?_) λe=>?_
  ·exact .some (⟨⟨Ja,fk0,Ja,trivial,Ja⟩,fkn 1⟩)
  ·refine .bind (Jup h om) λk h4=>.some (⟨⟨h4,fk0,Ja,trivial,Ja⟩,fk0⟩)
 ·exact .some (⟨⟨Ja,fk0,Ja,trivial,Ja⟩,fkn 1⟩)
theorem Jqb{B S x1:Int}(h:Ty.fit B S (.i .i64) x1)(j:BS B S 0 0:=by omega):Tot (J8z x1) λy=>Ty.fit 0 0 tq7 y:=by
 unfold J8z;refine .ltf (λg=>?_) λg=>?_
 ·refine .gt (λe=>?_) λe=>?_
  ·exact .some (⟨fzr,fkn 1⟩)
  ·exact .some (⟨⟨h,fzr⟩,fk0⟩)
 ·exact .some (⟨fzr,fkn 1⟩)
theorem JpY{B S x1:Int}(h:Ty.fit B S (.i .i64) x1)(j:BS B S 0 0:=by omega):Tot (J8F x1) λy=>Ty.fit 64 0 JI6 y:=by
 unfold J8F;have:=J2.1 h;refine .ltf (λg=>?_) λg=>?_
 ·refine .gt (λe=>?_) λe=>?_
  ·exact .some (⟨Ja,fkn 1⟩)
  ·refine .bind (JB1 (t:=Jc) (B:=64) (S:=0) (fzr)) λk h4=>.some (⟨h4.1,fk0⟩)
 ·exact .some (⟨Ja,fkn 1⟩)
theorem JE6{B S:Int}{x1:JI}(h:Ty.fit B S J0a x1)(q:BS B S 0 0:=by omega):Tot (Jbt x1) λy=>Ty.fit 64 0 tq1 y:=by
 unfold Jbt;refine .ltf (λo=>?_) λo=>?_
 ·refine .gtf (λg=>?_) λg=>?_
  ·have:=J2.1 h.2;refine .ltf (λn=>?_) λn=>?_
   ·refine .gt (λk=>?_) λk=>?_
    ·exact .some (⟨fzr,fkn 1⟩)
    ·refine .bind (Jqb h.2) λv j=>.bind (JpY h.1) λr e=>.some (⟨⟨h.1,fkn 1,⟨fkn 1,fzr⟩,j.1.u,fzr,Ja,e.1,Ja⟩,fk0⟩)
   ·exact .some (⟨fzr,fkn 1⟩)
  ·exact .some (⟨fzr,fkn 1⟩)
 ·exact .some (⟨fzr,fkn 1⟩)
theorem JE5{B S:Int}{x1:JI}(h:Ty.fit B S J0a x1)(j:BS B S 0 0:=by omega):Tot (JbM x1) λy=>Ty.fit 64 256 tq3 y:=by
 unfold JbM;refine .bind (JE6 (B:=0) (S:=0) (h)) λn h1=>.ne (λe=>?_) λe=>?_
 ·exact .some (⟨⟨fzr,Ja,fk0,Ja,trivial,Ja⟩,h1.2⟩)
 ·refine .bind (JFk h.1) λk h4=>.ne (λg=>?_) λg=>?_
  ·exact .some (⟨⟨fzr,Ja,fk0,Ja,trivial,Ja⟩,h4.2⟩)
  ·exact .some (⟨⟨h1.1.u,h4.1⟩,fk0⟩)
theorem Jbq{B S:Int}{x1:JI}(h:Ty.fit B S J0a x1)(g:BS B S 0 0:=by omega):Tot (J21 x1) λy=>Ty.fit 0 0 .b y/\(y=true->0<=x1.1/\x1.1<x1.2):=by
 unfold J21;have:=J2.1 h.1;refine .ge (λe=>?_) λe=>?_
 ·have:=J2.1 h.2;exact .some ⟨trivial,λc=>omc (J4c.1 c)⟩
 ·exact .some ⟨trivial,nofun⟩
theorem J8s{B S:Int}{x1:J2f}(h:Ty.fit B S JC x1)(j:BS B S 0 0:=by omega):Tot (J0A x1) λy=>Ty.fit 0 0 .b y/\(y=true->J0 x1.2<=12):=by
 unfold J0A;refine .le (λg=>?_) λg=>?_
 ·refine .itf (λe=>?_) λe=>?_
  ·exact .some ⟨trivial,λ_=>om⟩
  ·exact .some ⟨trivial,λ_=>om⟩
 ·exact .some ⟨trivial,nofun⟩
theorem Jch{B S:Int}{x1:J1e}(h:Ty.fit B S J0W x1)(r:BS B S 0 0:=by omega):Tot (J1F x1) λy=>Ty.fit 0 0 .b y/\(y=true->0<=x1.1/\x1.1<64/\0<=x1.2.1/\x1.2.1<16/\J0 x1.2.2.1.2<=12/\J0 x1.2.2.2.2<=12):=by
 unfold J1F;have s0:Ty.fit 0 S J0W x1:=h;have:=J2.1 s0.1;refine .ge (λq=>?_) λq=>?_
 ·refine .lt (λj=>?_) λj=>?_
  ·have:=J2.1 s0.2.1;refine .ge (λo=>?_) λo=>?_
   ·refine .lt (λn=>?_) λn=>?_
    ·refine .bind (J8s (B:=0) (S:=S) s0.2.2.1) λw k=>.ite (λg=>?_) λg=>?_
     ·have:J0 x1.2.2.1.2<=S:=s0.2.2.1.2;have:=J3 (l:=x1.2.2.1.2);have:J0 x1.2.2.1.2<=12:=k.2 g;refine .bind (J8s (B:=0) (S:=S) s0.2.2.2) λv e=>?_;have:=J3 (l:=x1.2.2.2.2);exact .some ⟨trivial,λc=>by have:J0 x1.2.2.2.2<=12:=e.2 c;first|omega|(dsimp only;omega)|(simp only[Jey,J5U]<;>omega)⟩
     ·exact .some ⟨trivial,nofun⟩
    ·exact .some ⟨trivial,nofun⟩
   ·exact .some ⟨trivial,nofun⟩
  ·exact .some ⟨trivial,nofun⟩
 ·exact .some ⟨trivial,nofun⟩
theorem Jyj{B S:Int}{x1:T_api_Entry}(h:Ty.fit B S J4 x1)(W:BS B S 0 0:=by omega):Tot (J2H x1) λy=>Ty.fit 0 S JH3 y/\(y.2=true->0<=y.1.2.2.1/\y.1.2.2.1<=1073741824/\0<=y.1.2.2.2.2.2.2.1.1/\y.1.2.2.2.2.2.2.1.1<64/\0<=y.1.2.2.2.2.2.2.1.2.1/\y.1.2.2.2.2.2.2.1.2.1<16/\J0 y.1.2.2.2.2.2.2.1.2.2.1.2<=12/\J0 y.1.2.2.2.2.2.2.1.2.2.2.2<=12/\J0 y.1.2.2.2.2.2.2.2<=8192):=by
 unfold J2H;have s0:Ty.fit 0 S J4 x1:=h;refine .eq (λT=>?_) λT=>?_
 ·refine .bind (Jch (B:=0) (S:=S) s0.2.2.2.2.2.2.1) λZ h3=>.eq (λV=>?_) λV=>?_
  ·refine .ite (λU=>?_) λU=>?_
   ·have:=J2.1 s0.2.2.2.2.2.2.1.1;refine .gt (λE=>?_) λE=>?_
    ·have:=J2.1 s0.2.2.2.2.2.1;refine .ge (λx=>?_) λx=>?_
     ·refine .le (λj=>?_) λj=>?_
      ·have:=J2.1 s0.2.2.1;refine .ge (λo=>?_) λo=>?_
       ·exact .some ⟨(⟨⟨s0.1,s0.2.1,s0.2.2.1,s0.2.2.2.1,s0.2.2.2.2.1,s0.2.2.2.2.2.1,s0.2.2.2.2.2.2.1,Jd⟩,trivial⟩),λc=>omc (J24.1 c)⟩
       ·exact .some ⟨(⟨⟨s0.1,s0.2.1,s0.2.2.1,s0.2.2.2.1,s0.2.2.2.2.1,s0.2.2.2.2.2.1,s0.2.2.2.2.2.2.1,Jd⟩,trivial⟩),nofun⟩
      ·exact .some ⟨(⟨⟨s0.1,s0.2.1,s0.2.2.1,s0.2.2.2.1,s0.2.2.2.2.1,s0.2.2.2.2.2.1,s0.2.2.2.2.2.2.1,Jd⟩,trivial⟩),nofun⟩
     ·exact .some ⟨(⟨⟨s0.1,s0.2.1,s0.2.2.1,s0.2.2.2.1,s0.2.2.2.2.1,s0.2.2.2.2.2.1,s0.2.2.2.2.2.2.1,Jd⟩,trivial⟩),nofun⟩
    ·exact .some ⟨(⟨⟨s0.1,s0.2.1,s0.2.2.1,s0.2.2.2.1,s0.2.2.2.2.1,s0.2.2.2.2.2.1,s0.2.2.2.2.2.2.1,Jd⟩,trivial⟩),nofun⟩
   ·exact .some ⟨(⟨⟨s0.1,s0.2.1,s0.2.2.1,s0.2.2.2.1,s0.2.2.2.2.1,s0.2.2.2.2.2.1,s0.2.2.2.2.2.2.1,Jd⟩,trivial⟩),nofun⟩
  ·refine .ite (λe=>?_) λe=>?_
   ·have:=J2.1 s0.2.2.2.2.2.2.1.1;have:=J2.1 s0.2.2.2.2.2.2.1.2.1;have:=J3 (l:=x1.2.2.2.2.2.2.1.2.2.1.2);have:=J3 (l:=x1.2.2.2.2.2.2.1.2.2.2.2);have:0<=x1.2.2.2.2.2.2.1.1/\x1.2.2.2.2.2.2.1.1<64/\0<=x1.2.2.2.2.2.2.1.2.1/\x1.2.2.2.2.2.2.1.2.1<16/\J0 x1.2.2.2.2.2.2.1.2.2.1.2<=12/\J0 x1.2.2.2.2.2.2.1.2.2.2.2<=12:=h3.2 e;have:=J2.1 s0.2.2.1;refine .ge (λA=>?_) λA=>?_
    ·exact .some ⟨(⟨⟨s0.1,s0.2.1,s0.2.2.1,s0.2.2.2.1,s0.2.2.2.2.1,fk0,s0.2.2.2.2.2.2.1,Jd⟩,trivial⟩),λc=>omc (J24.1 c)⟩
    ·exact .some ⟨(⟨⟨s0.1,s0.2.1,s0.2.2.1,s0.2.2.2.1,s0.2.2.2.2.1,fk0,s0.2.2.2.2.2.2.1,Jd⟩,trivial⟩),nofun⟩
   ·exact .some ⟨(⟨⟨s0.1,s0.2.1,s0.2.2.1,s0.2.2.2.1,s0.2.2.2.2.1,fk0,s0.2.2.2.2.2.2.1,Jd⟩,trivial⟩),nofun⟩
 ·refine .eq (λr=>?_) λr=>?_
  ·refine .bind (Jch (B:=0) (S:=S) s0.2.2.2.2.2.2.1) λY K=>.eq (λn=>?_) λn=>?_
   ·refine .ite (λg=>?_) λg=>?_
    ·have:=J2.1 s0.2.2.2.2.2.2.1.1;have:=J2.1 s0.2.2.2.2.2.2.1.2.1;have:=J3 (l:=x1.2.2.2.2.2.2.1.2.2.1.2);have:=J3 (l:=x1.2.2.2.2.2.2.1.2.2.2.2);have:0<=x1.2.2.2.2.2.2.1.1/\x1.2.2.2.2.2.2.1.1<64/\0<=x1.2.2.2.2.2.2.1.2.1/\x1.2.2.2.2.2.2.1.2.1<16/\J0 x1.2.2.2.2.2.2.1.2.2.1.2<=12/\J0 x1.2.2.2.2.2.2.1.2.2.2.2<=12:=K.2 g;refine .gt (λD=>?_) λD=>?_
     ·have:=J2.1 s0.2.2.2.2.2.1;refine .ge (λM=>?_) λM=>?_
      ·refine .le (λL=>?_) λL=>?_
       ·have:=J2.1 s0.2.2.1;refine .ge (λk=>?_) λk=>?_
        ·exact .some ⟨(⟨⟨s0.1,s0.2.1,s0.2.2.1,s0.2.2.2.1,s0.2.2.2.2.1,s0.2.2.2.2.2.1,s0.2.2.2.2.2.2.1,Jd⟩,trivial⟩),λc=>omc (J24.1 c)⟩
        ·exact .some ⟨(⟨⟨s0.1,s0.2.1,s0.2.2.1,s0.2.2.2.1,s0.2.2.2.2.1,s0.2.2.2.2.2.1,s0.2.2.2.2.2.2.1,Jd⟩,trivial⟩),nofun⟩
       ·exact .some ⟨(⟨⟨s0.1,s0.2.1,s0.2.2.1,s0.2.2.2.1,s0.2.2.2.2.1,s0.2.2.2.2.2.1,s0.2.2.2.2.2.2.1,Jd⟩,trivial⟩),nofun⟩
      ·exact .some ⟨(⟨⟨s0.1,s0.2.1,s0.2.2.1,s0.2.2.2.1,s0.2.2.2.2.1,s0.2.2.2.2.2.1,s0.2.2.2.2.2.2.1,Jd⟩,trivial⟩),nofun⟩
     ·exact .some ⟨(⟨⟨s0.1,s0.2.1,s0.2.2.1,s0.2.2.2.1,s0.2.2.2.2.1,s0.2.2.2.2.2.1,s0.2.2.2.2.2.2.1,Jd⟩,trivial⟩),nofun⟩
    ·exact .some ⟨(⟨⟨s0.1,s0.2.1,s0.2.2.1,s0.2.2.2.1,s0.2.2.2.2.1,s0.2.2.2.2.2.1,s0.2.2.2.2.2.2.1,Jd⟩,trivial⟩),nofun⟩
   ·refine .ite (λJ=>?_) λJ=>?_
    ·have:=J2.1 s0.2.2.2.2.2.2.1.1;refine .ge (λG=>?_) λG=>?_
     ·exact .some ⟨(⟨⟨s0.1,s0.2.1,s0.2.2.1,s0.2.2.2.1,s0.2.2.2.2.1,fk0,s0.2.2.2.2.2.2.1,Jd⟩,trivial⟩),λc=>omc (J24.1 c)⟩
     ·exact .some ⟨(⟨⟨s0.1,s0.2.1,s0.2.2.1,s0.2.2.2.1,s0.2.2.2.2.1,fk0,s0.2.2.2.2.2.2.1,Jd⟩,trivial⟩),nofun⟩
    ·exact .some ⟨(⟨⟨s0.1,s0.2.1,s0.2.2.1,s0.2.2.2.1,s0.2.2.2.2.1,fk0,s0.2.2.2.2.2.2.1,Jd⟩,trivial⟩),nofun⟩
  ·refine .eq (λz=>?_) λz=>?_
   ·have:=J2.1 s0.2.2.1;refine .ge (λI=>?_) λI=>?_
    ·refine .le (λw=>?_) λw=>?_
     ·have:=J2.1 s0.2.2.2.1;exact .some ⟨(⟨⟨s0.1,s0.2.1,s0.2.2.1,s0.2.2.2.1,fk0,fk0,⟨fk0,fk0,⟨trivial,Jd⟩,trivial,Jd⟩,Jd⟩,trivial⟩),λc=>omc (J9v.1 c)⟩
     ·exact .some ⟨(⟨⟨s0.1,s0.2.1,s0.2.2.1,s0.2.2.2.1,fk0,fk0,⟨fk0,fk0,⟨trivial,Jd⟩,trivial,Jd⟩,Jd⟩,trivial⟩),nofun⟩
    ·exact .some ⟨(⟨⟨s0.1,s0.2.1,s0.2.2.1,s0.2.2.2.1,fk0,fk0,⟨fk0,fk0,⟨trivial,Jd⟩,trivial,Jd⟩,Jd⟩,trivial⟩),nofun⟩
   ·refine .eq (λN=>?_) λN=>?_
    ·have:=J2.1 s0.2.2.1;refine .ge (λF=>?_) λF=>?_
     ·refine .le (λH=>?_) λH=>?_
      ·have:=J2.1 s0.2.2.2.1;exact .some ⟨(⟨⟨s0.1,s0.2.1,s0.2.2.1,s0.2.2.2.1,fk0,fk0,⟨fk0,fk0,⟨trivial,Jd⟩,trivial,Jd⟩,Jd⟩,trivial⟩),λc=>omc (J9v.1 c)⟩
      ·exact .some ⟨(⟨⟨s0.1,s0.2.1,s0.2.2.1,s0.2.2.2.1,fk0,fk0,⟨fk0,fk0,⟨trivial,Jd⟩,trivial,Jd⟩,Jd⟩,trivial⟩),nofun⟩
     ·exact .some ⟨(⟨⟨s0.1,s0.2.1,s0.2.2.1,s0.2.2.2.1,fk0,fk0,⟨fk0,fk0,⟨trivial,Jd⟩,trivial,Jd⟩,Jd⟩,trivial⟩),nofun⟩
    ·refine .eq (λq=>?_) λq=>?_
     ·have:=J2.1 s0.2.2.1;refine .ge (λQ=>?_) λQ=>?_
      ·refine .le (λv=>?_) λv=>?_
       ·have:=J2.1 s0.2.2.2.1;exact .some ⟨(⟨⟨s0.1,s0.2.1,s0.2.2.1,s0.2.2.2.1,fk0,fk0,⟨fk0,fk0,⟨trivial,Jd⟩,trivial,Jd⟩,Jd⟩,trivial⟩),λc=>omc (J9v.1 c)⟩
       ·exact .some ⟨(⟨⟨s0.1,s0.2.1,s0.2.2.1,s0.2.2.2.1,fk0,fk0,⟨fk0,fk0,⟨trivial,Jd⟩,trivial,Jd⟩,Jd⟩,trivial⟩),nofun⟩
      ·exact .some ⟨(⟨⟨s0.1,s0.2.1,s0.2.2.1,s0.2.2.2.1,fk0,fk0,⟨fk0,fk0,⟨trivial,Jd⟩,trivial,Jd⟩,Jd⟩,trivial⟩),nofun⟩
     ·refine .eq (λR=>?_) λR=>?_
      ·have:J0 x1.2.2.2.2.2.2.2<=S:=s0.2.2.2.2.2.2.2;have:=J3 (l:=x1.2.2.2.2.2.2.2);exact .some ⟨(⟨⟨s0.1,s0.2.1,fk0,fk0,fk0,fk0,⟨fk0,fk0,⟨trivial,Jd⟩,trivial,Jd⟩,s0.2.2.2.2.2.2.2⟩,trivial⟩),λc=>omc (J24.1 c)⟩
      ·refine .eq (λP=>?_) λP=>?_
       ·have:J0 x1.2.2.2.2.2.2.2<=S:=s0.2.2.2.2.2.2.2;have:=J3 (l:=x1.2.2.2.2.2.2.2);exact .some ⟨(⟨⟨s0.1,s0.2.1,fk0,fk0,fk0,fk0,⟨fk0,fk0,⟨trivial,Jd⟩,trivial,Jd⟩,s0.2.2.2.2.2.2.2⟩,trivial⟩),λc=>omc (J24.1 c)⟩
       ·refine .eq (λO=>?_) λO=>?_
        ·have:=J2.1 s0.2.2.2.2.2.2.1.1;refine .ge (λC=>?_) λC=>?_
         ·exact .some ⟨(⟨⟨s0.1,s0.2.1,fk0,fk0,fk0,s0.2.2.2.2.2.1,⟨s0.2.2.2.2.2.2.1.1,fk0,⟨trivial,Jd⟩,trivial,Jd⟩,Jd⟩,trivial⟩),λc=>omc (J4c.1 c)⟩
         ·exact .some ⟨(⟨⟨s0.1,s0.2.1,fk0,fk0,fk0,s0.2.2.2.2.2.1,⟨s0.2.2.2.2.2.2.1.1,fk0,⟨trivial,Jd⟩,trivial,Jd⟩,Jd⟩,trivial⟩),nofun⟩
        ·exact .some ⟨(⟨⟨s0.1,s0.2.1,fk0,fk0,fk0,fk0,⟨fk0,fk0,⟨trivial,Jd⟩,trivial,Jd⟩,Jd⟩,trivial⟩),nofun⟩
theorem J2D{B S:Int}{x1:T_api_Entry}(h:Ty.fit B S J4 x1)(C:BS B S 0 0:=by omega):Tot (J02 x1) λy=>Ty.fit 0 0 .b y/\(y=true->1<=x1.1/\x1.1<=1099511627776/\0<=x1.2.2.1/\x1.2.2.1<=1073741824/\0<=x1.2.2.2.1/\x1.2.2.2.1<x1.1/\0<=x1.2.2.2.2.1/\x1.2.2.2.2.1<x1.1/\0<=x1.2.2.2.2.2.1/\x1.2.2.2.2.2.1<x1.1/\0<=x1.2.2.2.2.2.2.1.1/\x1.2.2.2.2.2.2.1.1<64/\0<=x1.2.2.2.2.2.2.1.2.1/\x1.2.2.2.2.2.2.1.2.1<16/\J0 x1.2.2.2.2.2.2.1.2.2.1.2<=12/\J0 x1.2.2.2.2.2.2.1.2.2.2.2<=12/\J0 x1.2.2.2.2.2.2.2<=8192):=by
 unfold J02;have s0:Ty.fit 0 S J4 x1:=h;refine .bind (Jyj (B:=0) (S:=S) s0) λe h1=>.ite (λx=>?_) λx=>?_
 ·have:=J2.1 h1.1.1.c.1;have n:0<=e.1.2.2.1/\e.1.2.2.1<=1073741824/\0<=e.1.2.2.2.2.2.2.1.1/\e.1.2.2.2.2.2.2.1.1<64/\0<=e.1.2.2.2.2.2.2.1.2.1/\e.1.2.2.2.2.2.2.1.2.1<16/\J0 e.1.2.2.2.2.2.2.1.2.2.1.2<=12/\J0 e.1.2.2.2.2.2.2.1.2.2.2.2<=12/\J0 e.1.2.2.2.2.2.2.2<=8192:=h1.2 x;refine .ite (λg=>?_) λg=>?_
  ·have r:=J1A.1 g;have:0<=x1.2.2.1/\x1.2.2.1<=1073741824/\0<=x1.2.2.2.2.2.2.1.1/\x1.2.2.2.2.2.2.1.1<64/\0<=x1.2.2.2.2.2.2.1.2.1/\x1.2.2.2.2.2.2.1.2.1<16/\J0 x1.2.2.2.2.2.2.1.2.2.1.2<=12/\J0 x1.2.2.2.2.2.2.1.2.2.2.2<=12/\J0 x1.2.2.2.2.2.2.2<=8192:=by have q:=n;rw[r]at q;exact q
   have:=J2.1 s0.1;refine .ge (λA=>?_) λA=>?_
   ·refine .le (λz=>?_) λz=>?_
    ·refine .bind (Jbq (B:=0) (S:=0) (⟨s0.2.2.2.1,s0.1⟩)) λD o=>.ite (λk=>?_) λk=>?_
     ·have:=J2.1 s0.2.2.2.1;have:0<=x1.2.2.2.1/\x1.2.2.2.1<x1.1:=o.2 k;refine .bind (Jbq (B:=0) (S:=0) (⟨s0.2.2.2.2.1,s0.1⟩)) λF w=>.ite (λj=>?_) λj=>?_
      ·have:=J2.1 s0.2.2.2.2.1;have:0<=x1.2.2.2.2.1/\x1.2.2.2.2.1<x1.1:=w.2 j;refine .bind (Jbq (B:=0) (S:=0) (⟨s0.2.2.2.2.2.1,s0.1⟩)) λE v=>?_;have:=J2.1 s0.2.2.2.2.2.1;have:=J3 (l:=x1.2.2.2.2.2.2.1.2.2.1.2);have:=J3 (l:=x1.2.2.2.2.2.2.1.2.2.2.2);have:=J3 (l:=x1.2.2.2.2.2.2.2);exact .some ⟨trivial,λc=>by have:0<=x1.2.2.2.2.2.1/\x1.2.2.2.2.2.1<x1.1:=v.2 c;first|omega|(dsimp only;omega)|(simp only[Jey,J5U]<;>omega)⟩
      ·exact .some ⟨trivial,nofun⟩
     ·exact .some ⟨trivial,nofun⟩
    ·exact .some ⟨trivial,nofun⟩
   ·exact .some ⟨trivial,nofun⟩
  ·exact .some ⟨trivial,nofun⟩
 ·exact .some ⟨trivial,nofun⟩
section
variable {B S:Int}
theorem J2g{x:T_api_Entry}{y:Bool}(h:Ty.fit B S J4 x)(e:J02 x=some y)(c:y=true)(n:BS B S 0 0:=by omega):(1<=x.1/\x.1<=1099511627776/\0<=x.2.2.1/\x.2.2.1<=1073741824/\0<=x.2.2.2.1/\x.2.2.2.1<x.1/\0<=x.2.2.2.2.1/\x.2.2.2.2.1<x.1/\0<=x.2.2.2.2.2.1/\x.2.2.2.2.2.1<x.1/\0<=x.2.2.2.2.2.2.1.1/\x.2.2.2.2.2.2.1.1<64/\0<=x.2.2.2.2.2.2.1.2.1/\x.2.2.2.2.2.2.1.2.1<16/\J0 x.2.2.2.2.2.2.1.2.2.1.2<=12/\J0 x.2.2.2.2.2.2.1.2.2.2.2<=12/\J0 x.2.2.2.2.2.2.2<=8192)/\Ty.fit 0 8192 J4 x:=by
 have q:=((J2D h).get e).2 c;obtain⟨h1,h2,h3,h4,h5,g,⟨k,j,_,_⟩,o⟩:=h;refine⟨q,h1,h2,h3,h4,h5,g,⟨k,j,⟨trivial,?_⟩,trivial,?_⟩,?_⟩
 ·show J0 _<=8192;omega
 ·show J0 _<=8192;omega
 ·show J0 _<=8192;omega
end
theorem J67{B S:Int}{x1:J07}(h:Ty.fit B S JR x1)(p0:1<=x1.1)(g:x1.1<=1099511627776)(j:J0 x1.2.1<=4096)(e:BS B S 0 0:=by omega)(k:B<=9223372036854775807:=by omega):Tot (J2m x1) λy=>Ty.fit 0 0 (.i .i64) y/\(y=x1.1+J0 x1.2.1-1):=by unfold J2m;have:=J3 (l:=x1.2.1);have:J0 x1.2.1=_:=Jj h.2.1;have:=Jg x1.1 (J0 x1.2.1);have:=J0H (J1 .i64 x1.1 (J0 x1.2.1)) 1;exact .some ⟨J22,om⟩
theorem J2j{B S:Int}{x1:J07}(h:Ty.fit B S JR x1)(K:BS B S 0 0:=by omega)(N:B<=9223372036854775807:=by omega):Tot (J0i x1) λy=>Ty.fit 0 0 .b y/\(y=true->1<=x1.1/\x1.1<=1099511627776/\J0 x1.2.1<=4096/\x1.1-1<=x1.2.2/\x1.2.2<=x1.1+J0 x1.2.1-1):=by
 unfold J0i;have:=J2.1 h.1;refine .ltf (λC=>?_) λC=>?_
 ·refine .gtf (λD=>?_) λD=>?_
  ·have:J0 x1.2.1<=B:=h.2.1.1;have:=J3 (l:=x1.2.1);have:J0 x1.2.1=_:=Jj h.2.1;refine .gtf (λE=>?_) λE=>?_
   ·have:=J2.1 h.c;have:=J0H x1.1 1;refine .ltf (λA=>?_) λA=>?_
    ·refine .bind (J67 h om om om) λO H=>.gt (λo=>?_) λo=>?_
     ·exact .some ⟨trivial,nofun⟩
     ·refine Jb (τ:=Int) (λq=>(q,x1)) (λq=>(Ty.fit 0 0 (.i .i64) q/\0<=q/\(q<=J0 x1.2.1\/q<=0))) (λq=>J0 x1.2.1-q) ?_ 0 rfl ?_
      ·rintro e ⟨k,F,G⟩;unfold Jai
       try dsimp only
       have:=J2.1 k;refine .lt (λw=>?_) λw=>?_
       ·refine .bind (Jh h.2.1) λM J=>?_;have:=Jg x1.1 e;refine .nef (λv=>?_) λv=>?_
        ·refine .bind (Jh h.2.1) λr j=>.bind ((J2D (B:=0) (S:=S) (x1:=r) j.1.z).eqn) λL n=>.not (λg=>?_) λg=>?_
         ·exact .some ⟨trivial,nofun⟩
         ·have I:=J2g (x:=r) j.1.z n.2 g;have:=Jg e 1;exact .some ⟨J1 .i64 e 1,rfl,⟨J5,om,om⟩,om,om⟩
        ·exact .some ⟨trivial,nofun⟩
       ·exact .some ⟨trivial,λ_=>om⟩
      ·try dsimp only
       exact⟨fk0,oo,oo⟩
    ·exact .some ⟨trivial,nofun⟩
   ·exact .some ⟨trivial,nofun⟩
  ·exact .some ⟨trivial,nofun⟩
 ·exact .some ⟨trivial,nofun⟩
section
variable {B S:Int}
theorem JkB{x:J07}(h:Ty.fit B S JR x)(e:J0i x=some true)(w:BC B S 0 0:=by omega):(1<=x.1/\x.1<=1099511627776/\J0 x.2.1<=4096/\x.1-1<=x.2.2/\x.2.2<=x.1+J0 x.2.1-1)/\ ∀(j:Nat) (e:T_api_Entry),x.2.1[j]?=some e->e.1=x.1+j/\J02 e=some true:=by
 have q:=((J2j h).get e).2 rfl;refine⟨q,?_⟩;have n:Par (J0i x) λy=>y=true-> ∀(j:Nat) (e:T_api_Entry),x.2.1[j]?=some e->e.1=x.1+j/\J02 e=some true:=by
  unfold J0i
  repeat' first|exact Par.some nofun|refine Par.ltf (λ_=>?_) (λ_=>?_)|refine Par.gtf (λ_=>?_) (λ_=>?_)|refine Par.gt (λ_=>?_) (λ_=>?_)|refine Par.bind λ_ _=>?_
  refine .while (λz=>z.2=x/\0<=z.1/\ ∀(j:Nat) (e:T_api_Entry),(j:Int)<z.1->x.2.1[j]?=some e->e.1=x.1+j/\J02 e=some true) ⟨rfl,J0D _,λj e h1=>by dsimp only at h1;omega⟩ ?_;rintro⟨i,z⟩ ⟨rfl,r,g⟩;dsimp only at r g q;unfold Jai;dsimp only;refine .lt (λc=>?_) λc=>.some λ_ j e he=>g j e (by have:=J5P he;omega) he;refine .bind λC h4=>.nef (λD=>.bind λA h5=>.bind λb hb=>.not (λ_=>.some nofun) λo=>.some ?_) λ_=>.some nofun;subst o;have:=Jg i 1;have:=Jg z.1 i;rw[h4]at h5;injection h5 with h5;subst h5
  refine⟨rfl,?_,λj e hj he=>?_⟩
  ·show 0<=J1 .i64 i 1;omega
  ·have hj:(j:Int)<J1 .i64 i 1:=hj;by_cases k:(j:Int)<i
   ·exact g j e k he
   ·have:j=i.toNat:=by omega
    subst this;have v:=(J40 h4).2;rw[v]at he;injection he with he;subst he
    exact⟨oo,hb⟩
 exact n _ e rfl
theorem J1V{x:J07}{y:Bool}(h:Ty.fit B S JR x)(e:J0i x=some y)(c:y=true)(g:BC B S 0 0:=by omega):(1<=x.1/\x.1<=1099511627776/\J0 x.2.1<=4096/\x.1-1<=x.2.2/\x.2.2<=x.1+J0 x.2.1-1)/\Ty.fit 4096 8192 JR x:=by subst c;obtain⟨q,k⟩:=JkB h e;refine⟨q,h.1,⟨q.2.2.1,λa ha=>?_⟩,h.c⟩;obtain⟨j,hj⟩:=JgI.1 ha;exact(J2g (h.2.1.2 a ha) (k j a hj).2 rfl).2.u
end
theorem J96{B S:Int}{x1:J73}(h:Ty.fit B S tq8 x1)(o:BG B S:=by omega):Tot (J2G x1) λy=>Ty.fit 4096 8192 tq8 y/\(y.2=0->J0 y.1.2.1=J0 x1.1.2.1):=by
 unfold J2G;refine .bind ((J2j h.1).eqn) λr h1=>.not (λg=>?_) λg=>?_
 ·have:J0 x1.1.2.1<=B:=h.1.2.1.1;exact .some ⟨(⟨fzr,fkn 26⟩),om⟩
 ·have k:=J1V h.1 h1.2 g;have:=J3 (l:=x1.1.2.1);have:J0 x1.1.2.1=_:=Jj h.1.2.1;have e:Ty.fit 4096 8192 JR x1.1:=k.2;refine .bind (J67 e om om om) λq n=>.gt (λj=>?_) λj=>?_
  ·exact .some ⟨(⟨fzr,fkn 14⟩),om⟩
  ·exact .some ⟨(⟨⟨e.1,e.2.1,J45 e.c h.2⟩,fk0⟩),om⟩
theorem J7M{B S:Int}{x1:J07}(h:Ty.fit B S JR x1)(k:BC B S 0 0:=by omega):Tot (J3X x1) λy=>Ty.fit 0 0 (.i .i64) y:=by
 unfold J3X;refine .bind ((J2j h).eqn) λo h1=>.not (λe=>?_) λe=>?_
 ·exact .some fk0
 ·have v3:=J1V h h1.2 e;have:=J3 (l:=x1.2.1);have:J0 x1.2.1=_:=Jj h.2.1;have g:Ty.fit 4096 8192 JR x1:=v3.2;refine .bind (J67 g om om om) λn j=>.some j.1
theorem J06{B S x1:Int}(h:Ty.fit B S (.i .i64) x1)(e:BS B S 0 0:=by omega):Tot (Jx x1) λy=>Ty.fit 0 0 JZ y/\(y.1=5):=by unfold Jx;exact .some ⟨(⟨fkn 5,fk0,fk0,⟨trivial,Jd⟩,h⟩),om⟩
theorem JyZ{B S:Int}{x1:Ju}(h:Ty.fit B S Jl x1)(az:BS B S 0 0:=by omega)(hB:B<=9223372036854775807:=by omega):Tot (J2l x1) λy=>Ty.fit 0 0 .b y:=by
 unfold J2l;refine .ltf (λc1=>?_) λc1=>?_
 ·refine .gtf (λc3=>?_) λc3=>?_
  ·have:=J2.1 h.2.1;refine .ltf (λc4=>?_) λc4=>?_
   ·refine .gtf (λc6=>?_) λc6=>?_
    ·have:=J2.1 h.c.1;refine .ltf (λc7=>?_) λc7=>?_
     ·refine .gtf (λc9=>?_) λc9=>?_
      ·have:J0 x1.2.2.2.2.1<=B:=h.e.1.1;have:=J3 (l:=x1.2.2.2.2.1);refine .gtf (λx=>?_) λx=>?_
       ·have:J0 x1.2.2.2.2.2<=B:=h.g.1;have:=J3 (l:=x1.2.2.2.2.2);refine .gt (λY=>?_) λY=>?_
        ·exact .some trivial
        ·have:=J2.1 h.d.1;refine .ltf (λE=>?_) λE=>?_
         ·refine .gtf (λC=>?_) λC=>?_
          ·refine .ne (λT=>?_) λT=>?_
           ·refine .ne (λa1=>?_) λa1=>?_
            ·exact .some trivial
            ·refine Jb (τ:=Int) (λq=>(q,x1)) (λq=>(Ty.fit 0 0 (.i .i64) q/\0<=q/\(q<=J0 x1.2.2.2.2.1\/q<=0))) (λq=>J0 x1.2.2.2.2.1-q) ?_ 0 rfl ?_
             ·rintro o ⟨R,ac,au⟩;unfold Jfm
              try dsimp only
              have:=J2.1 R;refine .lt (λZ=>?_) λZ=>?_
              ·refine .bind (Jh h.e.1) λy3 ao=>.ltf (λA=>?_) λA=>?_
               ·refine .bind (Jh h.e.1) λy4 aj=>.gtf (λr=>?_) λr=>?_
                ·refine .gt (λV=>?_) λV=>?_
                 ·have:=J0H o 1;refine .bind (Jh h.e.1) λy5 aw=>.bind (Jh h.e.1) λy6 b1=>.ge (λG=>?_) λG=>?_
                  ·exact .some trivial
                  ·have:=Jg o 1;exact .some ⟨J1 .i64 o 1,rfl,⟨J5,om,om⟩,om,om⟩
                 ·have:=Jg o 1;exact .some ⟨J1 .i64 o 1,rfl,⟨J5,om,om⟩,om,om⟩
                ·exact .some trivial
               ·exact .some trivial
              ·refine .inr ?_;refine Jb (τ:=Int) (λq=>(q,x1)) (λq=>(Ty.fit 0 0 (.i .i64) q/\0<=q/\(q<=J0 x1.2.2.2.2.2\/q<=0))) (λq=>J0 x1.2.2.2.2.2-q) ?_ 0 rfl ?_
               ·rintro n ⟨M,b9,ah⟩;unfold JfF
                try dsimp only
                have:=J2.1 M;refine .lt (λw=>?_) λw=>?_
                ·refine .bind (Jh h.g) λy8 ak=>.ltf (λQ=>?_) λQ=>?_
                 ·refine .bind (Jh h.g) λy9 b0=>.gtf (λW=>?_) λW=>?_
                  ·refine .gt (λJ=>?_) λJ=>?_
                   ·have:=J0H n 1;refine .bind (Jh h.g) λa9 b6=>.bind (Jh h.g) λae ai=>.gt (λz=>?_) λz=>?_
                    ·exact .some trivial
                    ·have:=Jg n 1;exact .some ⟨J1 .i64 n 1,rfl,⟨J5,om,om⟩,om,om⟩
                   ·have:=Jg n 1;exact .some ⟨J1 .i64 n 1,rfl,⟨J5,om,om⟩,om,om⟩
                  ·exact .some trivial
                 ·exact .some trivial
                ·exact .some trivial
               ·try dsimp only
                exact⟨fk0,oo,oo⟩
             ·try dsimp only
              exact⟨fk0,oo,oo⟩
           ·refine Jb (τ:=Int) (λq=>(q,x1)) (λq=>(Ty.fit 0 0 (.i .i64) q/\0<=q/\(q<=J0 x1.2.2.2.2.1\/q<=0))) (λq=>J0 x1.2.2.2.2.1-q) ?_ 0 rfl ?_
            ·rintro k ⟨F,a8,ad⟩;unfold Jgt
             try dsimp only
             have:=J2.1 F;refine .lt (λL=>?_) λL=>?_
             ·refine .bind (Jh h.e.1) λb2 aa=>.ltf (λD=>?_) λD=>?_
              ·refine .bind (Jh h.e.1) λam an=>.gtf (λI=>?_) λI=>?_
               ·refine .gt (λN=>?_) λN=>?_
                ·have:=J0H k 1;refine .bind (Jh h.e.1) λaq ap=>.bind (Jh h.e.1) λb8 al=>.ge (λK=>?_) λK=>?_
                 ·exact .some trivial
                 ·have:=Jg k 1;exact .some ⟨J1 .i64 k 1,rfl,⟨J5,om,om⟩,om,om⟩
                ·have:=Jg k 1;exact .some ⟨J1 .i64 k 1,rfl,⟨J5,om,om⟩,om,om⟩
               ·exact .some trivial
              ·exact .some trivial
             ·refine .inr ?_;refine Jb (τ:=Int) (λq=>(q,x1)) (λq=>(Ty.fit 0 0 (.i .i64) q/\0<=q/\(q<=J0 x1.2.2.2.2.2\/q<=0))) (λq=>J0 x1.2.2.2.2.2-q) ?_ 0 rfl ?_
              ·rintro j ⟨U,b3,av⟩;unfold Jg9
               try dsimp only
               have:=J2.1 U;refine .lt (λH=>?_) λH=>?_
               ·refine .bind (Jh h.g) λag ab=>.ltf (λv=>?_) λv=>?_
                ·refine .bind (Jh h.g) λay af=>.gtf (λa0=>?_) λa0=>?_
                 ·refine .gt (λP=>?_) λP=>?_
                  ·have:=J0H j 1;refine .bind (Jh h.g) λb5 b7=>.bind (Jh h.g) λb4 ax=>.gt (λO=>?_) λO=>?_
                   ·exact .some trivial
                   ·have:=Jg j 1;exact .some ⟨J1 .i64 j 1,rfl,⟨J5,om,om⟩,om,om⟩
                  ·have:=Jg j 1;exact .some ⟨J1 .i64 j 1,rfl,⟨J5,om,om⟩,om,om⟩
                 ·exact .some trivial
                ·exact .some trivial
               ·exact .some trivial
              ·try dsimp only
               exact⟨fk0,oo,oo⟩
            ·try dsimp only
             exact⟨fk0,oo,oo⟩
          ·exact .some trivial
         ·exact .some trivial
       ·exact .some trivial
      ·exact .some trivial
     ·exact .some trivial
    ·exact .some trivial
   ·exact .some trivial
  ·exact .some trivial
 ·exact .some trivial
theorem J3v{B S:Int}{x1:List Ju}(h:Ty.fit B S (.l Jl) x1)(A:BS B S 0 0:=by omega)(I:B<=9223372036854775807:=by omega):Tot (J0Z x1) λy=>Ty.fit 0 0 .b y:=by
 unfold J0Z;have:=J3 (l:=x1);have:J0 x1=_:=Jj h;refine .gt (λv=>?_) λv=>?_
 ·exact .some trivial
 ·refine Jb (τ:=Int) (λq=>(x1,q)) (λq=>(Ty.fit 0 0 (.i .i64) q/\0<=q/\(q<=J0 x1\/q<=0))) (λq=>J0 x1-q) ?_ 0 rfl ?_
  ·rintro e ⟨r,D,C⟩;unfold J9V
   try dsimp only
   have:=J2.1 r;refine .lt (λo=>?_) λo=>?_
   ·refine .bind (Jh h) λE k=>.bind (JyZ k.1) λH x=>.nof (λg=>?_) λg=>?_
    ·refine .gt (λn=>?_) λn=>?_
     ·have:=J0H e 1;refine .bind (Jh h) λF w=>.bind (Jh h) λG z=>.ge (λj=>?_) λj=>?_
      ·exact .some trivial
      ·have:=Jg e 1;exact .some ⟨J1 .i64 e 1,rfl,⟨J5,om,om⟩,om,om⟩
     ·have:=Jg e 1;exact .some ⟨J1 .i64 e 1,rfl,⟨J5,om,om⟩,om,om⟩
    ·exact .some trivial
   ·exact .some trivial
  ·try dsimp only
   exact⟨fk0,oo,oo⟩
theorem J9R{B S:Int}{x1:J2t}(h:Ty.fit B S tq2 x1)(o:BS B S 0 0:=by omega)(w:B<=9223372036854775807:=by omega):Tot (J1q x1) λy=>Ty.fit 0 0 (.i .i64) y/\(-1<=y/\y<J0 x1.1):=by
 unfold J1q;have:J0 x1.1<=B:=h.1.1;have:=J3 (l:=x1.1);have:J0 x1.1=_:=Jj h.1;refine Jb (τ:=Int) (λq=>(x1.1,x1.2,q)) (λq=>(Ty.fit 0 0 (.i .i64) q/\0<=q/\(q<=J0 x1.1\/q<=0))) (λq=>J0 x1.1-q) ?_ 0 rfl ?_
 ·rintro e ⟨g,x,v⟩;unfold J1Y
  try dsimp only
  have:=J2.1 g;refine .lt (λk=>?_) λk=>?_
  ·refine .bind (Jh h.1) λr n=>.eq (λj=>?_) λj=>?_
   ·exact .some ⟨g,om⟩
   ·have:=Jg e 1;exact .some ⟨J1 .i64 e 1,rfl,⟨J5,om,om⟩,om,om⟩
  ·exact .some ⟨(fkn (-1)),om⟩
 ·try dsimp only
  exact⟨fk0,oo,oo⟩
theorem Jkq{B S:Int}{x1:J2t}(h:Ty.fit B S tq2 x1)(Z:BG B S:=by omega):Tot (J6F x1) λy=>Ty.fit 8193 0 tq2 y:=by
 unfold J6F;refine .bind ((J3v h.1).eqn) λy2 h1=>.not (λK=>?_) λK=>?_
 ·exact .some (⟨Ja,fkn 15⟩)
 ·have v3:=J2C h.1 h1.2 K;have:=J3 (l:=x1.1);have:J0 x1.1=_:=Jj h.1;have k:Ty.fit 4096 0 (.l Jl) x1.1:=v3.2;refine .ltf (λP=>?_) λP=>?_
  ·refine .gt (λG=>?_) λG=>?_
   ·exact .some (⟨Ja,fkn 1⟩)
   ·refine .bind (J9R (B:=4096) (S:=0) (⟨k,h.2⟩)) λy3 T=>.ge (λJ=>?_) λJ=>?_
    ·exact .some (⟨Ja,fkn 25⟩)
    ·refine .eq (λO=>?_) λO=>?_
     ·exact .some (⟨Ja,fkn 21⟩)
     ·refine Jb (τ:=Int×(List Ju)) (λq=>(x1.1,x1.2,q.1,q.2)) (λq=>(Ty.fit 0 0 (.i .i64) q.1/\0<=q.1/\(q.1<=J0 x1.1\/q.1<=0))/\(Ty.fit 4096 0 (.l Jl) q.2/\J0 q.2<=1*q.1+0)) (λq=>J0 x1.1-q.1) ?_ (0,[]) rfl ?_
      ·rintro⟨j,e⟩ r;dsimp only at r;obtain⟨⟨E,Y,V⟩,g,U⟩:=r;unfold Jf0
       try dsimp only
       have:=J2.1 E;refine .lt (λL=>?_) λL=>?_
       ·refine .bind (Jh k) λy5 W=>.lt (λD=>?_) λD=>?_
        ·refine .bind (Jh k) λy6 H=>?_;have:J0 e<=4096:=g.1;have:=J3 (l:=e);have:J0 e=_:=Jj g;refine .bind (J0q (B:=4096) (Bl:=4096) (Bm:=4096) (S:=0) (J0 e) 1 g (J0f (B:=4096) (S:=0) (t:=Jl) oo H.1)) λC o=>?_;have:=Jg j 1;have:J0 C=_:=Jj o.1;exact .some ⟨(J1 .i64 j 1,C),rfl,⟨⟨J5,om,om⟩,o.1,om⟩,om,om⟩
        ·refine .inr ?_;have:J0 e<=4096:=g.1;have:=J3 (l:=e);have:J0 e=_:=Jj g;refine .bind (J0q (B:=4097) (Bl:=4096) (Bm:=1) (S:=0) (J0 e) 1 g (J0f (B:=1) (S:=0) (t:=Jl) oo (⟨h.2,fkn 1,fzr⟩))) λI x=>.bind (J3i k) λM v=>?_;have:J0 I=_:=Jj x.1;have:J0 M=_:=Jj v.1;refine .bind (J0q (B:=8193) (Bl:=4097) (Bm:=4096) (S:=0) (J0 I) (J0 M) x.1 v.1) λQ N=>.some (⟨N.1,fk0⟩)
       ·refine .inr ?_;have:J0 e<=4096:=g.1;have:=J3 (l:=e);have:J0 e=_:=Jj g;refine .bind (J0q (B:=4097) (Bl:=4096) (Bm:=1) (S:=0) (J0 e) 1 g (J0f (B:=1) (S:=0) (t:=Jl) oo (⟨h.2,fkn 1,fzr⟩))) λz A=>.bind (J3i k) λw n=>?_;have:J0 z=_:=Jj A.1;have:J0 w=_:=Jj n.1;refine .bind (J0q (B:=8193) (Bl:=4097) (Bm:=4096) (S:=0) (J0 z) (J0 w) A.1 n.1) λR F=>.some (⟨F.1,fk0⟩)
      ·have:J0 ([]:List Ju)=0:=rfl
       try dsimp only
       exact⟨⟨fk0,oo,oo⟩,Ja,oo⟩
  ·exact .some (⟨Ja,fkn 1⟩)
theorem J92{B S:Int}{x1:J1R}(h:Ty.fit B S tq1 x1)(r:BS B S 0 0:=by omega)(x:B<=9223372036854775807:=by omega):Tot (J4k x1) λy=>Ty.fit 0 0 (.pr Jc .b) y:=by
 unfold J4k;have:J0 x1.1.2.2.2.2.2.2.2<=B:=h.1.i.1;have:=J3 (l:=x1.1.2.2.2.2.2.2.2);have:J0 x1.1.2.2.2.2.2.2.2=_:=Jj h.1.i;refine Jb (τ:=Int) (λq=>(x1.2,q,x1.1,0,0,0)) (λq=>(Ty.fit 0 0 (.i .i64) q/\0<=q/\(q<=J0 x1.1.2.2.2.2.2.2.2\/q<=0))) (λq=>J0 x1.1.2.2.2.2.2.2.2-q) ?_ 0 rfl ?_
 ·rintro e ⟨k,z,w⟩;unfold JfM
  try dsimp only
  have:=J2.1 k;refine .lt (λn=>?_) λn=>?_
  ·refine .bind (Jh h.1.i) λv o=>.eq (λg=>?_) λg=>?_
   ·refine .bind (Jh h.1.i) λA j=>.some (⟨j.1,trivial⟩)
   ·have:=Jg e 1;exact .some ⟨J1 .i64 e 1,rfl,⟨J5,om,om⟩,om,om⟩
  ·exact .some (⟨fzr,trivial⟩)
 ·try dsimp only
  exact⟨fk0,oo,oo⟩
theorem J3Q{B S:Int}{x1:JuB}(h:Ty.fit B S JJY x1)(k:BS B S 0 0:=by omega):Tot (J2d x1) λy=>Ty.fit 0 0 .b y:=by
 unfold J2d;refine .ne (λj=>?_) λj=>?_
 ·refine .ite (λe=>?_) λe=>?_
  ·have n:=J1A.1 e;refine .eqf (λg=>?_) λg=>?_
   ·exact .some trivial
   ·exact .some trivial
  ·exact .some trivial
 ·exact .some trivial
theorem Jci{B S:Int}{x1:T_api_Grant}(h:Ty.fit B S J8 x1)(r:BS B S 0 0:=by omega):Tot (J5m x1) λy=>Ty.fit 0 0 .b y:=by
 unfold J5m;refine .ge (λq=>?_) λq=>?_
 ·refine .le (λj=>?_) λj=>?_
  ·have:=J2.1 h.2.1.1;refine .ge (λo=>?_) λo=>?_
   ·refine .lt (λn=>?_) λn=>?_
    ·have:=J2.1 h.2.1.2;refine .ge (λk=>?_) λk=>?_
     ·refine .lt (λg=>?_) λg=>?_
      ·have:=J2.1 h.c;refine .eqf (λe=>?_) λe=>?_
       ·exact .some trivial
       ·exact .some trivial
      ·exact .some trivial
     ·exact .some trivial
    ·exact .some trivial
   ·exact .some trivial
  ·exact .some trivial
 ·exact .some trivial
theorem Jon{B S:Int}{x1:JuB}(h:Ty.fit B S JJY x1)(j:BS B S 0 0:=by omega):Tot (J7I x1) λy=>Ty.fit 0 0 .b y:=by
 unfold J7I;refine .ne (λg=>?_) λg=>?_
 ·exact .some trivial
 ·have:=J2.1 h.1.2.1.2;refine .ne (λe=>?_) λe=>?_
  ·exact .some trivial
  ·exact .some trivial
theorem J55{B S:Int}{x1:JzI}(h:Ty.fit B S (.pr JB Jc) x1)(x:BS B S 0 0:=by omega)(E:B<=9223372036854775807:=by omega):Tot (J2X x1) λy=>Ty.fit 0 0 (.i .i64) y:=by
 unfold J2X;have:J0 x1.1.1<=B:=h.1.1.1;have:=J3 (l:=x1.1.1);have:J0 x1.1.1=_:=Jj h.1.1;refine Jb (τ:=Int) (λq=>(x1.2.1,q,x1.1,x1.2.2)) (λq=>(Ty.fit 0 0 (.i .i64) q/\0<=q/\(q<=J0 x1.1.1\/q<=0))) (λq=>J0 x1.1.1-q) ?_ 0 rfl ?_
 ·rintro e ⟨o,F,C⟩;unfold Jj0
  try dsimp only
  have:=J2.1 o;refine .lt (λn=>?_) λn=>?_
  ·refine .bind (Jh h.1.1) λz v=>.eq (λk=>?_) λk=>?_
   ·refine .bind (Jh h.1.1) λD w=>.ite (λg=>?_) λg=>?_
    ·have r:=J1A.1 g;refine .bind (Jh h.1.1) λA j=>.some j.1.c
    ·have:=Jg e 1;exact .some ⟨J1 .i64 e 1,rfl,⟨J5,om,om⟩,om,om⟩
   ·have:=Jg e 1;exact .some ⟨J1 .i64 e 1,rfl,⟨J5,om,om⟩,om,om⟩
  ·exact .some fk0
 ·try dsimp only
  exact⟨fk0,oo,oo⟩
theorem J4j{B S:Int}{x1:J01}(h:Ty.fit B S JB x1)(aq:BS B S 0 0:=by omega)(hB:B<=9223372036854775807:=by omega):Tot (J1n x1) λy=>Ty.fit 0 0 .b y:=by
 unfold J1n;have:J0 x1.1<=B:=h.1.1;have:=J3 (l:=x1.1);have:J0 x1.1=_:=Jj h.1;have:J0 x1.2<=B:=h.2.1;have:=J3 (l:=x1.2);have:J0 x1.2=_:=Jj h.2;have:=Jg (J0 x1.1) (J0 x1.2);refine .gt (λZ=>?_) λZ=>?_
 ·exact .some trivial
 ·refine Jb (τ:=Int) (λq=>(q,x1)) (λq=>(Ty.fit 0 0 (.i .i64) q/\0<=q/\(q<=J0 x1.1\/q<=0))) (λq=>J0 x1.1-q) ?_ 0 rfl ?_
  ·rintro e ⟨i9,au,b1⟩;unfold Jg7
   try dsimp only
   have:=J2.1 i9;refine .lt (λK=>?_) λK=>?_
   ·refine .bind (Jh h.1) λy3 w=>.bind (Jci w.1) λy4 a2=>.nof (λE=>?_) λE=>?_
    ·refine .gt (λM=>?_) λM=>?_
     ·have:=J0H e 1;refine .bind (Jh h.1) λy5 P=>.bind (Jh h.1) λy6 G=>.bind (Jon (B:=0) (S:=0) (⟨P.1,G.1⟩)) λy7 an=>.not (λD=>?_) λD=>?_
      ·exact .some trivial
      ·refine Jb (τ:=Int) (λq=>(e,q,x1)) (λq=>(Ty.fit 0 0 (.i .i64) q/\q<=JG .i64 e 1)) (λq=>q-0) ?_ (JG .i64 e 1) rfl ?_
       ·rintro o ⟨C,a6⟩;unfold JfH
        try dsimp only
        have:=J2.1 C;refine .ge (λR=>?_) λR=>?_
        ·refine .bind (Jh h.1) λy9 aj=>.bind (Jh h.1) λa1 ab=>.ite (λr=>?_) λr=>?_
         ·have ai:=J1A.1 r;refine .bind (Jh h.1) λa8 N=>.bind (Jh h.1) λa4 O=>.bind (J3Q (B:=0) (S:=0) (⟨N.1,O.1⟩)) λaw a5=>.ite (λT=>?_) λT=>?_
          ·refine .inr ?_;exact .some trivial
          ·have:=J0H o 1;exact .some ⟨JG .i64 o 1,rfl,⟨J22,om⟩,om,om⟩
         ·have:=Jg e 1;exact .some ⟨J1 .i64 e 1,rfl,⟨J5,om,om⟩,om,om⟩
        ·have:=Jg e 1;exact .some ⟨J1 .i64 e 1,rfl,⟨J5,om,om⟩,om,om⟩
       ·try dsimp only
        exact⟨J22,oo⟩
     ·have:=J0H e 1;refine Jb (τ:=Int) (λq=>(e,q,x1)) (λq=>(Ty.fit 0 0 (.i .i64) q/\q<=JG .i64 e 1)) (λq=>q-0) ?_ (JG .i64 e 1) rfl ?_
      ·rintro j ⟨I,aa⟩;unfold Jgx
       try dsimp only
       have:=J2.1 I;refine .ge (λx=>?_) λx=>?_
       ·refine .bind (Jh h.1) λak ac=>.bind (Jh h.1) λaz a3=>.ite (λv=>?_) λv=>?_
        ·have ap:=J1A.1 v;refine .bind (Jh h.1) λal Y=>.bind (Jh h.1) λa9 A=>.bind (J3Q (B:=0) (S:=0) (⟨Y.1,A.1⟩)) λao av=>.ite (λH=>?_) λH=>?_
         ·refine .inr ?_;exact .some trivial
         ·have:=J0H j 1;exact .some ⟨JG .i64 j 1,rfl,⟨J22,om⟩,om,om⟩
        ·have:=Jg e 1;exact .some ⟨J1 .i64 e 1,rfl,⟨J5,om,om⟩,om,om⟩
       ·have:=Jg e 1;exact .some ⟨J1 .i64 e 1,rfl,⟨J5,om,om⟩,om,om⟩
      ·try dsimp only
       exact⟨J22,oo⟩
    ·exact .some trivial
   ·refine .inr ?_;refine Jb (τ:=Int) (λq=>(q,x1)) (λq=>(Ty.fit 0 0 (.i .i64) q/\0<=q/\(q<=J0 x1.2\/q<=0))) (λq=>J0 x1.2-q) ?_ 0 rfl ?_
    ·rintro g ⟨F,b0,a7⟩;unfold Jg2
     try dsimp only
     have:=J2.1 F;refine .lt (λW=>?_) λW=>?_
     ·refine .bind (Jh h.2) λV n=>.bind (Jci n.1) λae af=>.nof (λz=>?_) λz=>?_
      ·refine .bind (J55 (B:=B) (S:=S) (⟨h,n.1.1,n.1.2.1⟩)) λax ad=>.ge (λU=>?_) λU=>?_
       ·exact .some trivial
       ·refine Jb (τ:=Int) (λq=>(g,q,x1,V)) (λq=>(Ty.fit 0 0 (.i .i64) q/\0<=q/\(q<=g\/q<=0))) (λq=>g-q) ?_ 0 rfl ?_
        ·rintro k ⟨L,am,ay⟩;unfold JfT
         try dsimp only
         have:=J2.1 L;refine .lt (λQ=>?_) λQ=>?_
         ·refine .bind (Jh h.2) λah ag=>.eq (λJ=>?_) λJ=>?_
          ·refine .inr ?_;exact .some trivial
          ·have:=Jg k 1;exact .some ⟨J1 .i64 k 1,rfl,⟨J5,om,om⟩,om,om⟩
         ·have:=Jg g 1;exact .some ⟨J1 .i64 g 1,rfl,⟨J5,om,om⟩,om,om⟩
        ·try dsimp only
         exact⟨fk0,oo,oo⟩
      ·exact .some trivial
     ·exact .some trivial
    ·try dsimp only
     exact⟨fk0,oo,oo⟩
  ·try dsimp only
   exact⟨fk0,oo,oo⟩
theorem Jlt{B S:Int}{x1:JW}(h:Ty.fit B S Jt x1)(x:BS B S 0 0:=by omega):Tot (J1U x1) λy=>Ty.fit 0 0 .b y:=by
 unfold J1U;have s0:Ty.fit 0 S Jt x1:=h;refine Jb (τ:=Int) (λq=>(q,x1)) (λq=>(Ty.fit 0 0 (.i .i64) q/\0<=q/\(q<=16\/q<=0))) (λq=>16-q) ?_ 0 rfl ?_
 ·rintro e ⟨r,w2,z3⟩;unfold Jae
  try dsimp only
  have:=J2.1 r;refine .lt (λv=>?_) λv=>?_
  ·refine .bind (J6z) λ_ _=>.bind (JcK s0.2.2) λo j=>.bind (J8s j) λA C=>.nof (λn=>?_) λn=>?_
   ·have:J0 o.2<=S:=j.2;refine .eq (λk=>?_) λk=>?_
    ·refine .bind (J6z) λ_ _=>.bind (JcK s0.2.2) λz w=>.ite (λg=>?_) λg=>?_
     ·exact .some trivial
     ·have:=Jg e 1;exact .some ⟨J1 .i64 e 1,rfl,⟨J5,om,om⟩,om,om⟩
    ·have:=Jg e 1;exact .some ⟨J1 .i64 e 1,rfl,⟨J5,om,om⟩,om,om⟩
   ·exact .some trivial
  ·exact .some trivial
 ·try dsimp only
  exact⟨fk0,oo,oo⟩
theorem Jg4{B S:Int}{x1:JW}(h:Ty.fit B S Jt x1)(k:BS B S 0 0:=by omega):Tot (J1J x1) λy=>Ty.fit 0 0 .b y:=by
 unfold J1J;refine .ge (λj=>?_) λj=>?_
 ·refine .lt (λe=>?_) λe=>?_
  ·have:=J2.1 h.z.2.1;refine .ge (λg=>?_) λg=>?_
   ·exact .some trivial
   ·exact .some trivial
  ·exact .some trivial
 ·exact .some trivial
end Go.Am
end

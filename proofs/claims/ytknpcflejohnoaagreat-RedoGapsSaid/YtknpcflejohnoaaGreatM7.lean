/-
  Parts of a proof.
-/
import Derived.Shelf.Strings.Repeat
import Derived.Shelf.Strings.Builder1
import Derived.Shelf.Lays
import Derived.Test.YtknpcflejohnoaaGreatProg
import Derived.Lib.Agree
import Derived.KernelRfl
import Derived.WalkKit
import Derived.BigCall
import Derived.Test.YtknpcflejohnoaaGreatM2
import Derived.Test.YtknpcflejohnoaaGreatM3
import Derived.Test.YtknpcflejohnoaaGreatM5
import Derived.Test.YtknpcflejohnoaaGreatM6
set_option linter.unusedSimpArgs false
set_option linter.unusedVariables false
section
namespace Go.Am
set_option maxRecDepth 20000
set_option maxHeartbeats 4000000
noncomputable section
abbrev yu:=aG 41 Ny NJ::aG 55 Rq Ox::aG 77 Xz NR::aG 76 Xj tC::aG 74 X0 kL::aG 75 I5 BN::aG 62 S2 GS::aG 87 S5 jm::aG 88 Yh XF::aG 54 Un BZ::[]
theorem Nv:AE yu:=by
 iterate 10 refine oh (λ_=>rfl) ?_ λ_=>by kernel_rfl
 exact ae0
abbrev zt:=aG 27 Wc yC::aG 52 N7 jd::yu
theorem zg:AE zt:=by
 iterate 2 refine oh (λ_=>rfl) ?_ λ_=>by kernel_rfl
 exact Nv
noncomputable def EM:PS:=λf=>if f=10 then some (pgP JE J7 xR)else none
theorem M7:zB EM 10=some (.prim (pgP JE J7 xR)):=rfl
def AD(l:List TE):Prop:=zF (AF (zB EM)) l
theorem fF{i g S l f}(hf:zB EM i=some (.fn (aN f)))(A:AD l)(q: ∀x,onO (nT g x) (λy=>vP (TG.of l) f y.1 y.2 (pT g))=S x)(hs:EZ g=true:=by rfl):AD (aG i g S::l):=⟨m6 hf A hs q,A⟩
abbrev VY:=aG 10 Mu xR::zt
theorem wy:AD VY:=⟨JIO M7,zg EM⟩
theorem Xt(r x):onO (nT g_draw_Codes_Next x) (λy=>vP (TG.of (aG 9 g_draw_Codes_Next r::VY)) ny y.1 y.2 (pT g_draw_Codes_Next))=GY r x:=by kernel_rfl
abbrev Ay:=aG 9 g_draw_Codes_Next Jt::VY
theorem Xo:AD Ay:=⟨YQ (fn:=ny) (l:=VY) rfl (wy) rfl Xt 100,wy⟩
abbrev wo:=aG 92 Gf xP::aG 91 Gt uT::aG 93 Ge Ia::aG 71 He uV::aG 94 Tu GU::aG 51 Y9 XI::aG 73 Xx XE::aG 104 Yp NT::aG 38 Xa iI::aG 39 X5 GX::Ay
theorem Fd:AD wo:=by
 iterate 10 refine fF rfl ?_ λ_=>by kernel_rfl
 exact Xo
abbrev yq:=aG 13 Ov iJ::aG 32 Ra Jw::aG 36 Nf jD::aG 44 R4 Jm::aG 63 Nq qQ::aG 67 Q3 kG::aG 89 Xn hM::aG 64 S1 mG::aG 49 Ft uU::aG 70 H7 xQ::wo
theorem Rc:AD yq:=by
 iterate 10 refine fF rfl ?_ λ_=>by kernel_rfl
 exact Fd
abbrev xl:=aG 228 L4 MT::aG 227 Pi GK::aG 209 Xb vI::aG 144 O0 sQ::aG 126 N8 NG::aG 156 Ko lG::aG 155 Ql jF::aG 198 Oq qP::aG 103 S0 Jr::aG 14 Is mY::yq
theorem Ls:AD xl:=by
 iterate 10 refine fF rfl ?_ λ_=>by kernel_rfl
 exact Rc
abbrev yg:=aG 143 Pv nB::aG 187 Yf mK::aG 186 Ob iK::aG 230 F5 oT::aG 132 N3 JP::aG 163 Q8 nK::aG 65 V5 hI::aG 66 P7 gL::aG 185 Rl mH::aG 229 Lb sH::xl
theorem Rh:AD yg:=by
 iterate 10 refine fF rfl ?_ λ_=>by kernel_rfl
 exact Ls
abbrev zk:=aG 215 Ss GR::aG 176 L0 hC::aG 179 Io kI::aG 218 Fu GD::aG 110 F2 eC::aG 177 Uk gR::aG 33 Wp JC::aG 95 Om CO::aG 112 P1 BU::aG 120 Qd Jq::yg
theorem So:AD zk:=by
 iterate 10 refine fF rfl ?_ λ_=>by kernel_rfl
 exact Rh
abbrev zb:=aG 175 Ur CA::aG 164 Fp JT::aG 139 H4 gJ::aG 147 Mo qN::aG 130 Gk mA::aG 115 Ht hO::aG 133 Lw iH::aG 178 L6 fK::aG 217 Uv tB::aG 216 H9 qK::zk
theorem T4:AD zb:=by
 iterate 10 refine fF rfl ?_ λ_=>by kernel_rfl
 exact So
abbrev yt:=aG 114 Qx nD::aG 131 Qw jG::aG 99 Yb CW::aG 117 Mz BB::aG 137 JCs AP::aG 172 Og vF::aG 138 Ua CG::aG 173 Oi oU::aG 174 Sx WD::aG 214 Vj NL::zb
theorem Nt:AD yt:=by
 iterate 10 refine fF rfl ?_ λ_=>by kernel_rfl
 exact T4
abbrev Ak:=aG 167 Te sV::aG 211 Qr vG::aG 248 Qt uX::aG 169 Q7 kH::aG 212 Ve NN::aG 168 L9 xU::aG 134 R7 eV::aG 165 Qa vE::aG 45 Pm fC::aG 166 Gj qJ::yt
theorem Uo:AD Ak:=by
 iterate 10 refine fF rfl ?_ λ_=>by kernel_rfl
 exact Nt
abbrev xr:=aG 236 Lq SX::aG 235 Mx SY::aG 193 Lx AW::aG 98 Rr CM::aG 116 N9 qS::aG 136 Vf sT::aG 171 Qi BQ::aG 213 Gp jH::aG 135 O9 BV::aG 170 K4 BF::Ak
theorem K5:AD xr:=by
 iterate 10 refine fF rfl ?_ λ_=>by kernel_rfl
 exact Uo
abbrev vv:=aG 238 JBU AQ::aG 195 Fx uR::aG 237 Tr BY::aG 197 Kw MZ::aG 194 Vq NM::aG 46 N1 lI::aG 153 Lg qM::aG 151 Wm nG::aG 152 Wo CP::aG 192 Sa yF::xr
theorem JB6:AD vv:=by
 iterate 10 refine fF rfl ?_ λ_=>by kernel_rfl
 exact K5
abbrev zn:=aG 233 Ta sY::aG 256 Rn BR::aG 222 Fb dP::aG 146 I4 BA::aG 189 G8 SQ::aG 122 K6 SV::aG 150 Tn NP::aG 123 Hs gK::aG 154 It hH::aG 196 T7 vA::vv
theorem Ut:AD zn:=by
 iterate 10 refine fF rfl ?_ λ_=>by kernel_rfl
 exact JB6
abbrev ya:=aG 48 Kn mC::aG 69 Re lD::aG 90 Nd mF::aG 111 Oa sP::aG 21 Nj gQ::aG 149 Tk sX::aG 191 Ff sM::aG 148 Pj uY::aG 190 Xi oV::aG 234 Gx GH::zn
theorem Mj:AD ya:=by
 iterate 10 refine fF rfl ?_ λ_=>by kernel_rfl
 exact Ut
abbrev xy:=aG 210 Mg GN::aG 160 Wb CQ::aG 100 Tv vB::aG 102 K0 BE::aG 121 Q1 mI::aG 145 Kh sJ::aG 188 Kl nA::aG 231 Tq uZ::aG 232 Hw vD::aG 23 K9 jE::ya
theorem Kx:AD xy:=by
 iterate 10 refine fF rfl ?_ λ_=>by kernel_rfl
 exact Mj
abbrev WN:=aG 245 Ws WM::aG 205 W2 XB::aG 243 Oz NF::aG 128 Vo WX::aG 161 Hg GB::xy
theorem yx:AD WN:=by
 iterate 5 refine fF rfl ?_ λ_=>by kernel_rfl
 exact Kx
theorem Ti(r x):onO (nT g_ref09_closed x) (λy=>vP (TG.of (aG 246 g_ref09_closed r::WN)) jx y.1 y.2 (pT g_ref09_closed))=GQ r x:=by kernel_rfl
abbrev Aj:=aG 246 g_ref09_closed yi::WN
theorem Sh:AD Aj:=⟨YQ (fn:=jx) (l:=WN) rfl (yx) rfl Ti 1100,yx⟩
abbrev yy:=aG 240 U5 WI::aG 200 Sy sU::aG 206 Uh tA::aG 244 H6 AU::aG 208 In SL::aG 247 Pq VZ::aG 202 Kj MX::aG 203 Md MV::aG 242 Uy yE::aG 207 O8 VR::Aj
theorem Uu:AD yy:=by
 iterate 10 refine fF rfl ?_ λ_=>by kernel_rfl
 exact Sh
abbrev xk:=aG 162 Kz mD::aG 127 JCy AS::aG 159 W9 qT::aG 158 Vb vK::aG 157 JAz sE::aG 199 Vm vJ::aG 239 Ub GT::aG 204 Hx NB::aG 201 Rg qR::aG 241 U8 XA::yy
theorem K8:AD xk:=by
 iterate 10 refine fF rfl ?_ λ_=>by kernel_rfl
 exact Uu
abbrev yr:=aG 141 Rj nI::aG 180 Mi BM::aG 181 Ry sN::aG 220 Sg CB::aG 249 Hp xT::aG 219 Rk xW::aG 140 Hk BL::aG 97 Yv CZ::aG 113 JAU AO::aG 129 Mt AY::xk
theorem P8:AD yr:=by
 iterate 10 refine fF rfl ?_ λ_=>by kernel_rfl
 exact K8
abbrev yh:=aG 226 O7 WB::aG 255 Nb SU::aG 258 Kb ST::aG 182 Mf xS::aG 223 Su CC::aG 251 Yc CX::aG 250 Y2 JH::aG 252 Y7 yG::aG 221 Vk nF::aG 118 Pg BW::yr
theorem Oh:AD yh:=by
 iterate 10 refine fF rfl ?_ λ_=>by kernel_rfl
 exact P8
abbrev An:=aG 183 Wh CR::aG 225 Lh BO::aG 254 On lE::aG 224 Rm CN::aG 253 Sk CF::aG 257 S8 vH::aG 259 Sd WK::aG 262 Yl NS::aG 261 Y1 tE::aG 260 Tx CD::yh
theorem Wv:AD An:=by
 iterate 10 refine fF rfl ?_ λ_=>by kernel_rfl
 exact Oh
abbrev vu:=aG 7 JAx AR::aG 8 Yq CY::aG 26 Yx CS::aG 50 Ii AT::aG 72 Zb CU::aG 96 Y4 qU::aG 101 Ze CV::aG 119 Lj ND::aG 142 Mp xV::aG 184 Qb CH::An
theorem JBO:AD vu:=by
 iterate 10 refine fF rfl ?_ λ_=>by kernel_rfl
 exact Wv
abbrev Ao:=aG 30 Vr zq::aG 43 Ul WF::vu
theorem U9:AD Ao:=by
 iterate 2 refine fF rfl ?_ λ_=>by kernel_rfl
 exact JBO
abbrev wq:=aG 58 Fq xO::Ao
theorem G2:AD wq:=⟨JHf rfl,U9⟩
abbrev xi:=aG 61 Gz SS::aG 86 Yi XD::wq
theorem Gi:AD xi:=by
 iterate 2 refine fF rfl ?_ λ_=>by kernel_rfl
 exact G2
abbrev As:=aG 60 X2 NQ::xi
theorem Xe:AD As:=⟨JHR rfl,Gi⟩
abbrev xg:=aG 12 F4 mB::aG 35 J8N XJ::aG 34 Px VX::aG 6 Ot VV::aG 20 L5 GO::aG 42 Q6 uW::aG 56 Pc GL::aG 78 Mh NC::aG 57 Kd sI::aG 59 Yd XG::As
theorem Gc:AD xg:=by
 iterate 10 refine fF rfl ?_ λ_=>by kernel_rfl
 exact Xe
abbrev Xp:=aG 3 Xf WS::aG 11 P0 CJ::aG 15 F7 sL::xg
theorem X1:AD Xp:=by
 iterate 3 refine fF rfl ?_ λ_=>by kernel_rfl
 exact Gc
end
end Go.Am
end
section
namespace Go.Proofs
open Go.Shelf Go.RowKit
def Tryz.ρA:Ren where
 f:=fun
  |105=>60
  |212=>82
  |99=>83
  |165=>84
  |166=>79
  |170=>85
  |169=>81
  |263=>106
  |264=>107
  |206=>108
  |240=>105
  |241=>109
  |276=>124
  |277=>125
  |167=>80
  |n=>n
 t:=fun
  |9=>9
  |3=>3
  |4=>4
  |20=>20
  |0=>0
  |46=>160
  |109=>161
  |5=>5
  |72=>153
  |76=>156
  |51=>129
  |146=>183
  |53=>159
  |148=>185
  |70=>151
  |37=>22
  |75=>155
  |127=>182
  |164=>211
  |80=>98
  |n=>n
 g:=λn=>n
theorem Tryz.laysRep:Lays.n105 Tryz.prog Tryz.ρA where
 mixed:=by kernel_rfl
 f99:=by kernel_rfl
 f105:=by kernel_rfl
 f165:=by kernel_rfl
 f166:=by kernel_rfl
 f169:=by kernel_rfl
 f170:=by kernel_rfl
 f206:=by kernel_rfl
 f212:=by kernel_rfl
 f240:=by kernel_rfl
 f241:=by kernel_rfl
 f263:=by kernel_rfl
 f264:=by kernel_rfl
 f276:=by kernel_rfl
 f277:=by kernel_rfl
 t0:=Tryz.underlying0
 a0:=Tryz.isAgg0
 z0:=Tryz.sizeOf0
 v0:=Tryz.zeroValue0
 t3:=Tryz.underlying3
 a3:=Tryz.isAgg3
 z3:=Tryz.sizeOf3
 v3:=Tryz.zeroValue3
 t4:=Tryz.underlying4
 a4:=Tryz.isAgg4
 z4:=Tryz.sizeOf4
 v4:=Tryz.zeroValue4
 t5:=Tryz.underlying5
 a5:=Tryz.isAgg5
 z5:=Tryz.sizeOf5
 v5:=Tryz.zeroValue5
 t9:=Tryz.underlying9
 a9:=Tryz.isAgg9
 z9:=Tryz.sizeOf9
 v9:=Tryz.zeroValue9
 t20:=Tryz.underlying20
 a20:=Tryz.isAgg20
 z20:=Tryz.sizeOf20
 v20:=Tryz.zeroValue20
 t37:=Tryz.underlying22
 a37:=Tryz.isAgg22
 z37:=Tryz.sizeOf22
 v37:=Tryz.zeroValue22
 t46:=Tryz.underlying160
 a46:=Tryz.isAgg160
 z46:=Tryz.sizeOf160
 v46:=Tryz.zeroValue160
 t51:=Tryz.underlying129
 a51:=Tryz.isAgg129
 z51:=Tryz.sizeOf129
 v51:=Tryz.zeroValue129
 t53:=Tryz.underlying159
 a53:=Tryz.isAgg159
 z53:=Tryz.sizeOf159
 v53:=Tryz.zeroValue159
 t70:=Tryz.underlying151
 a70:=Tryz.isAgg151
 z70:=Tryz.sizeOf151
 v70:=Tryz.zeroValue151
 t72:=Tryz.underlying153
 a72:=Tryz.isAgg153
 z72:=Tryz.sizeOf153
 v72:=Tryz.zeroValue153
 t75:=Tryz.underlying155
 a75:=Tryz.isAgg155
 z75:=Tryz.sizeOf155
 v75:=Tryz.zeroValue155
 t76:=Tryz.underlying156
 a76:=Tryz.isAgg156
 z76:=Tryz.sizeOf156
 v76:=Tryz.zeroValue156
 t109:=Tryz.underlying161
 a109:=Tryz.isAgg161
 z109:=Tryz.sizeOf161
 v109:=Tryz.zeroValue161
 t127:=Tryz.underlying182
 a127:=Tryz.isAgg182
 z127:=Tryz.sizeOf182
 v127:=Tryz.zeroValue182
 t146:=Tryz.underlying183
 a146:=Tryz.isAgg183
 z146:=Tryz.sizeOf183
 v146:=Tryz.zeroValue183
 t148:=Tryz.underlying185
 a148:=Tryz.isAgg185
 z148:=Tryz.sizeOf185
 v148:=Tryz.zeroValue185
 t164:=Tryz.underlying211
 a164:=Tryz.isAgg211
 z164:=Tryz.sizeOf211
 v164:=Tryz.zeroValue211
theorem Tryz.laysWB:Lays.n167 Tryz.prog Tryz.ρA where
 mixed:=by kernel_rfl
 f167:=by kernel_rfl
 f240:=by kernel_rfl
 f276:=by kernel_rfl
 t0:=Tryz.underlying0
 a0:=Tryz.isAgg0
 z0:=Tryz.sizeOf0
 v0:=Tryz.zeroValue0
 t4:=Tryz.underlying4
 a4:=Tryz.isAgg4
 z4:=Tryz.sizeOf4
 v4:=Tryz.zeroValue4
 t5:=Tryz.underlying5
 a5:=Tryz.isAgg5
 z5:=Tryz.sizeOf5
 v5:=Tryz.zeroValue5
 t9:=Tryz.underlying9
 a9:=Tryz.isAgg9
 z9:=Tryz.sizeOf9
 v9:=Tryz.zeroValue9
 t20:=Tryz.underlying20
 a20:=Tryz.isAgg20
 z20:=Tryz.sizeOf20
 v20:=Tryz.zeroValue20
 t37:=Tryz.underlying22
 a37:=Tryz.isAgg22
 z37:=Tryz.sizeOf22
 v37:=Tryz.zeroValue22
 t70:=Tryz.underlying151
 a70:=Tryz.isAgg151
 z70:=Tryz.sizeOf151
 v70:=Tryz.zeroValue151
 t72:=Tryz.underlying153
 a72:=Tryz.isAgg153
 z72:=Tryz.sizeOf153
 v72:=Tryz.zeroValue153
 t75:=Tryz.underlying155
 a75:=Tryz.isAgg155
 z75:=Tryz.sizeOf155
 v75:=Tryz.zeroValue155
 t164:=Tryz.underlying211
 a164:=Tryz.isAgg211
 z164:=Tryz.sizeOf211
 v164:=Tryz.zeroValue211
theorem Tryz.extraRep:Builder.Extra Tryz.prog Tryz.ρA where
 sizeBuilder:=by kernel_rfl
 liesBuilder:=by kernel_rfl
 t5:=Tryz.laysRep.t5
 a5:=Tryz.laysRep.a5
 z5:=Tryz.laysRep.z5
 v5:=Tryz.laysRep.v5
 infoByte:=by kernel_rfl
 cellsByte:=by kernel_rfl
 sizeByte:=by kernel_rfl
 neB5:=by decide
theorem Tryz.WriteByte(B b:Nat)(g:List Value)(c:Int)(w:World)(h:Lib.IsBuilder 153 5 B b g w)(hlen:g.length+1<=140737488355328)(j:B<=w.heap.size):
  Calls Tryz.prog 80 #[.pointer (some ⟨b,0,none⟩),.int .u8 c] w λe w'=>e=.returned .nilIface/\(Lib.BuilderAt 153 5 B b (.pointer (some ⟨b,0,none⟩)) (g++[.int .u8 c]) w'/\Below B w w'):=
 Any.Builder_WriteByte Tryz.laysWB Tryz.extraRep B b g c w h hlen j
theorem Tryz.WriteString(B b:Nat)(g:List Value)(s:ByteArray)(w:World)(h:Lib.IsBuilder 153 5 B b g w)(hlen:g.length+s.size<=140737488355328)(j:B<=w.heap.size):
  Calls Tryz.prog 79 #[.pointer (some ⟨b,0,none⟩),.string s] w λe w'=>e=.returned (.tuple #[.int .i64 s.size,.nilIface])/\(Lib.BuilderAt 153 5 B b (.pointer (some ⟨b,0,none⟩)) (g++Lib.strCells s) w'/\Below B w w'):=
 Any.Builder_WriteString {Tryz.laysRep with} Tryz.extraRep B b g s w h hlen j
theorem Tryz.String(B b:Nat)(l:List UInt8)(w:World)(h:Lib.IsBuilder 153 5 B b (Lib.byteCells l) w)(g:B<=w.heap.size):
  Calls Tryz.prog 81 #[.pointer (some ⟨b,0,none⟩)] w λe w'=>e=.returned (.string ⟨l.toArray⟩)/\Below B w w':=
 Any.Builder_String_any {Tryz.laysRep with} Tryz.extraRep B b l w h g
theorem Tl(l:List UInt8)(n:Int)(k:Nat):Lib.byteCells (l++Am.J06 n k)++[.int .u8 (Am.J6V n k)]=Lib.byteCells (l++Am.J06 n (k+1)):=by
 rw[Am.Jqa,<-List.append_assoc,Lib.byteCells_append (l++Am.J06 n k)]
 congr 1
 show [Value.int .u8 _]=[Value.int .u8 ((UInt8.ofNat (Am.J6V n k).toNat).toNat:Int)];rw[Am.JmH]
set_option maxHeartbeats 6400000 in
set_option maxRecDepth 100000 in
theorem Tryz.put(s:ByteArray)(n:Int)(k:Nat)(hk:1<=k)(A:k<=8)(hs:s.size+8<=140737488355328)(w:World):
  Calls Tryz.prog 58 #[.string s,.int .i64 n,.int .i64 k] w λe w'=>e=.returned (.string ⟨(s.data.toList++Am.J06 n k).toArray⟩)/\Below w.heap.size w w':=by
 have B:s.data.toList.length=s.size:=(Lib.size_eq s).symm;have h0:Lib.IsBuilder 153 5 w.heap.size w.heap.size [] (w.alloc (.cells #[.pointer none,.slice none 0 0] 153)):=Lib.fresh_isBuilder 153 5 w;have b0:Below w.heap.size w (w.alloc (.cells #[.pointer none,.slice none 0 0] 153)):=(Below.refl _ w).alloc (Nat.le_refl _) _
 go_enter Tryz.func58,Tryz.ntmps58
 go_wp2_with (go_at_call 79;refine(Tryz.WriteString w.heap.size w.heap.size [] s _ h0 (by simp;omega) b0.size).mono ?_)
 rintro e r ⟨rfl,h1,b1⟩;have o:Lib.IsBuilder 153 5 w.heap.size w.heap.size (Lib.byteCells (s.data.toList++Am.J06 n 0)) r:=by rw[List.nil_append,Lib.strCells_eq]at h1;have x:Am.J06 n 0=[]:=rfl;rw[x,List.append_nil];exact Or.inr h1
 have q:=b0.trans b1;clear h1 b1 h0 b0
 go_wp2
 go_loopw [19] (λi wr=> ∃j:Nat,j<=k/\i=.int .i64 j/\Lib.IsBuilder 153 5 w.heap.size w.heap.size (Lib.byteCells (s.data.toList++Am.J06 n j)) wr/\Below w.heap.size w wr)
  (λi _=>k-(intOf i).toNat)
 case atStart=>exact⟨0,Nat.zero_le _,rfl,o,q⟩
 case round=>
  obtain⟨j,C,rfl,h,g⟩:=hrel;by_cases z:j<k
  ·go_wp2_with (go_at_call 80;refine(Tryz.WriteByte w.heap.size w.heap.size _ _ _ h (by rw[Lib.byteCells_length,List.length_append,Am.Jv];omega) g.size).mono ?_;rintro e v ⟨rfl,h2,b2⟩)
   have y:Am.J6V n j=IntKind.u64.wrap n/2^(8*j)%256:=by show((IntKind.wrap .u64 n).fdiv (2^(8*j)))%256=_;rw[Int.fdiv_eq_ediv_of_nonneg _ (Int.le_of_lt (Int.pow_pos (by decide)))]
   rw[<-y,Tl]at h2;exact⟨⟨j+1,by omega,by simp,Or.inr h2,g.trans b2⟩,by simp[intOf];omega⟩
  ·obtain rfl:j=k:=by omega
   go_wp2_with (go_at_call 81;refine(Tryz.String w.heap.size w.heap.size _ _ h g.size).mono ?_;rintro e v ⟨rfl,b2⟩)
   go_wp2
   go_ret
   exact⟨rfl,g.trans b2⟩
theorem Tryz.put_out(s:ByteArray)(n k:Int)(hk:k<1\/8<k)(w:World):
  Calls Tryz.prog 58 #[.string s,.int .i64 n,.int .i64 k] w λe w'=>e=.returned (.string s)/\Below w.heap.size w w':=by
 go_enter Tryz.func58,Tryz.ntmps58
 go_wp2
 all_goals (go_ret;exact⟨rfl,Below.refl _ _⟩)
theorem pp(l:List UInt8): ∀c,Lib.repeatL l c=(List.replicate c l).flatten|0=>rfl|c+1=>by rw[Lib.repeatL,pp l c,List.replicate_succ,List.flatten_cons]
theorem qy(l:List UInt8):(⟨l.toArray⟩:ByteArray).data.toList=l:=rfl
theorem Xm(args:List Am.AV)(blks:List Am.Blk)(r:Am.Res)(h:Am.JBB args blks=some r):Am.J61 Tryz.prog 60 args blks r:=by
 unfold Am.JBB at h;split at h;rename_i bl l n;obtain⟨x,e,rfl⟩:=Option.map_eq_some_iff.1 h;unfold Am.JkV at e;split at e;rename_i g;obtain⟨h0,h1,h2⟩:=g;injection e with e;subst e;refine Am.Jpm (xs:=[.s l,.i .i64 n]) (vs:=[.string ⟨l.toArray⟩,.int .i64 n]) (v:=.string ⟨((List.replicate n.toNat l).flatten).toArray⟩) ⟨_,Tryz.func60,by decide,by decide⟩ rfl rfl λw=>?_;have h3:=Any.strings_Repeat Tryz.laysRep Tryz.extraRep ⟨l.toArray⟩ n.toNat w (by omega) (by rw[Lib.size_eq];exact h2);rw[qy,pp,show((n.toNat:Nat):Int)=n by omega]at h3;exact h3;cases e;cases h
theorem I0(args:List Am.AV)(blks:List Am.Blk)(r:Am.Res)(h:Am.JB5 args blks=some r):Am.J61 Tryz.prog 58 args blks r:=by
 unfold Am.JB5 at h;split at h;rename_i bl l n k;obtain⟨x,e,rfl⟩:=Option.map_eq_some_iff.1 h;unfold Am.JjN at e;split at e;rename_i g;injection e with e;subst e;exact Am.Jpm (xs:=[.s l,.i .i64 n,.i .i64 k]) (vs:=[.string ⟨l.toArray⟩,.int .i64 n,.int .i64 k]) (v:=.string ⟨l.toArray⟩) ⟨_,Tryz.func58,by decide,by decide⟩ rfl rfl λw=>Tryz.put_out _ n k g w;rename_i g;split at e;rename_i h2;injection e with e;subst e;refine Am.Jpm (xs:=[.s l,.i .i64 n,.i .i64 k]) (vs:=[.string ⟨l.toArray⟩,.int .i64 n,.int .i64 k]) (v:=.string ⟨(l++Am.J06 n k.toNat).toArray⟩) ⟨_,Tryz.func58,by decide,by decide⟩ rfl rfl λw=>?_;have h3:=Tryz.put ⟨l.toArray⟩ n k.toNat (by omega) (by omega) (by rw[Lib.size_eq];exact h2) w;rw[qy,show((k.toNat:Nat):Int)=k by omega]at h3;exact h3;cases e;cases h
end Go.Proofs
end

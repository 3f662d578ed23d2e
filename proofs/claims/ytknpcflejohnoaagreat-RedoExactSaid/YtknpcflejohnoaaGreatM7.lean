/-
  Parts of a proof.
-/
import Derived.Shelf.Strings.Repeat
import Derived.Shelf.Strings.Builder1
import Derived.Shelf.Lays
import Derived.Test.YtknpcflejohnoaaGreatProg
import Derived.Lib.Agree
import Derived.KernelRfl
import Derived.WalkKit
import Derived.BigCall
import Derived.Test.YtknpcflejohnoaaGreatM2
import Derived.Test.YtknpcflejohnoaaGreatM3
import Derived.Test.YtknpcflejohnoaaGreatM4
import Derived.Test.YtknpcflejohnoaaGreatM6
set_option linter.unusedSimpArgs false
set_option linter.unusedVariables false
section
namespace Go.Am
set_option maxRecDepth 20000
set_option maxHeartbeats 4000000
noncomputable section
theorem Xv(r x):onO (mY g_draw_Codes_Next x) (λy=>uK (TG.of (aE 9 g_draw_Codes_Next r::[])) nc y.1 y.2 (oO g_draw_Codes_Next))=FZ r x:=by kernel_rfl
abbrev yx:=aE 9 g_draw_Codes_Next J6::[]
theorem Xp:AE yx:=λp=>⟨XT (fn:=nc) (l:=[]) rfl (ae0 p) rfl Xv 100,ae0 p⟩
abbrev uj:=aE 71 F0 FB::aE 94 Tf VK::aE 51 Ze WS::aE 73 Xh WM::aE 104 Yo NG::aE 38 W7 JM::aE 19 X0 WJ::aE 40 Yd NF::aE 37 Xt xF::aE 39 Xk mR::yx
theorem E3:AE uj:=by
 iterate 10 refine eX (λ_=>rfl) ?_ λ_=>by kernel_rfl
 exact Xp
abbrev wn:=aE 44 Q7 Js::aE 63 Ol pO::aE 67 Ri mK::aE 89 Xm iY::aE 64 R2 lL::aE 49 Gq tQ::aE 70 Gb wM::aE 92 Hb zP::aE 91 E7 wL::aE 93 Ha Ge::uj
theorem P1:AE wn:=by
 iterate 10 refine eX (λ_=>rfl) ?_ λ_=>by kernel_rfl
 exact E3
abbrev wk:=aE 144 Nq rT::aE 126 Nk MN::aE 156 In kP::aE 155 P6 iW::aE 198 Ng pN::aE 103 R1 Jw::aE 14 Hp rG::aE 13 Oa kN::aE 32 Rq JB::aE 36 Mp iV::wn
theorem N0:AE wk:=by
 iterate 10 refine eX (λ_=>rfl) ?_ λ_=>by kernel_rfl
 exact P1
abbrev u9:=aE 230 G2 nV::aE 132 O0 JY::aE 163 Rn mP::aE 65 U9 jW::aE 66 N8 iI::aE 185 Px lM::aE 229 Is rE::aE 228 Md LZ::aE 227 Qj FM::aE 209 W8 uC::wk
theorem F5:AE u9:=by
 iterate 10 refine eX (λ_=>rfl) ?_ λ_=>by kernel_rfl
 exact N0
abbrev ug:=aE 218 Gr FH::aE 110 Gz eB::aE 177 T5 gF::aE 33 V0 JN::aE 95 Nc BF::aE 112 N2 AS::aE 120 O8 Jv::aE 143 Ph mG::aE 187 Yg lQ::aE 186 Mv hO::u9
theorem F7:AE ug:=by
 iterate 10 refine eX (λ_=>rfl) ?_ λ_=>by kernel_rfl
 exact F5
abbrev ve:=aE 147 Ll pT::aE 130 Ey lJ::aE 115 Ie gR::aE 133 L5 iG::aE 178 Mh fG::aE 217 Tx rN::aE 216 Gd pL::aE 215 Rw FR::aE 176 L9 gP::aE 179 Hk jU::ug
theorem Kr:AE ve:=by
 iterate 10 refine eX (λ_=>rfl) ?_ λ_=>by kernel_rfl
 exact F7
abbrev vj:=aE 117 M6 AA::aE 137 JCI zJ::aE 172 M7 tT::aE 138 Ut AP::aE 173 M9 nW::aE 174 Ry VN::aE 214 Vv MW::aE 175 Tc AL::aE 164 Fu JT::aE 139 F9 fX::ve
theorem Me:AE vj:=by
 iterate 10 refine eX (λ_=>rfl) ?_ λ_=>by kernel_rfl
 exact Kr
abbrev xl:=aE 169 Rm mO::aE 212 Vq NA::aE 168 Mk MS::aE 134 Sa FV::aE 165 O5 AQ::aE 45 Qn iJ::aE 166 Ex pK::aE 114 Q9 rP::aE 131 Ps lP::aE 99 X6 BQ::vj
theorem Of:AE xl:=by
 iterate 10 refine eX (λ_=>rfl) ?_ λ_=>by kernel_rfl
 exact Me
abbrev wy:=aE 98 Qu BB::aE 116 Mt pQ::aE 136 Vr rO::aE 171 P3 AR::aE 213 E2 iX::aE 135 Qa UU::aE 170 Lc AG::aE 167 Tw rX::aE 211 Pn tU::aE 248 Pp tW::xl
theorem Pk:AE wy:=by
 iterate 10 refine eX (λ_=>rfl) ?_ λ_=>by kernel_rfl
 exact Of
abbrev vo:=aE 197 K5 MG::aE 194 Uf MX::aE 46 Oy rS::aE 153 Iv pS::aE 151 Vx mI::aE 152 Vz BJ::aE 192 Sd wY::aE 236 Kk SE::aE 235 M2 VI::aE 193 L6 zX::wy
theorem M3:AE vo:=by
 iterate 10 refine eX (λ_=>rfl) ?_ λ_=>by kernel_rfl
 exact Pk
abbrev vm:=aE 146 I4 RZ::aE 189 Hc RV::aE 122 Ld SC::aE 150 Ss MZ::aE 123 Id fY::aE 154 Hq gQ::aE 196 Uq uA::aE 238 JC8 zL::aE 195 Gt tS::aE 237 Sx AJ::vo
theorem Kn:AE vm:=by
 iterate 10 refine eX (λ_=>rfl) ?_ λ_=>by kernel_rfl
 exact M3
abbrev w4:=aE 111 Mu ML::aE 21 Oc iK::aE 149 R5 rL::aE 191 Eo rK::aE 148 Qk BA::aE 190 Wo BI::aE 234 Fb LT::aE 233 Ts VM::aE 256 Pz UT::aE 222 Ff dN::vm
theorem Qr:AE w4:=by
 iterate 10 refine eX (λ_=>rfl) ?_ λ_=>by kernel_rfl
 exact Kn
abbrev wh:=aE 102 K8 AC::aE 121 Rg lN::aE 145 Hx rH::aE 188 Ik rI::aE 231 Sw tZ::aE 232 Ih tY::aE 23 Iq pU::aE 48 Im tX::aE 69 Rr xB::aE 90 Mo FK::w4
theorem Ml:AE wh:=by
 iterate 10 refine eX (λ_=>rfl) ?_ λ_=>by kernel_rfl
 exact Qr
abbrev VV:=aE 245 V2 VX::aE 205 V7 WE::aE 243 Np MK::aE 128 Ud WB::aE 161 F2 FF::aE 210 Kx FJ::aE 160 Wi BK::aE 100 Tg uB::wh
theorem xb:AE VV:=by
 iterate 8 refine eX (λ_=>rfl) ?_ λ_=>by kernel_rfl
 exact Ml
theorem R3(r x):onO (mY g_ref09_closed x) (λy=>uK (TG.of (aE 246 g_ref09_closed r::VV)) ja y.1 y.2 (oO g_ref09_closed))=FQ r x:=by kernel_rfl
abbrev yj:=aE 246 g_ref09_closed wq::VV
theorem Sk:AE yj:=λp=>⟨XT (fn:=ja) (l:=VV) rfl (xb p) rfl R3 1100,xb p⟩
abbrev xc:=aE 240 T8 VS::aE 200 Rz rW::aE 206 U0 rM::aE 244 Ga zO::aE 208 Hj RY::aE 247 Qs VF::aE 202 Ii MD::aE 203 Ku MB::aE 242 T1 wW::aE 207 P9 UY::yj
theorem Te:AE xc:=by
 iterate 10 refine eX (λ_=>rfl) ?_ λ_=>by kernel_rfl
 exact Sk
abbrev vf:=aE 162 K7 lK::aE 127 JCN zR::aE 159 W4 pV::aE 158 Vn uG::aE 157 JAU rC::aE 199 U7 uF::aE 239 Uu FU::aE 204 Hm MI::aE 201 Pt pP::aE 241 Ub WD::xc
theorem Ip:AE vf:=by
 iterate 10 refine eX (λ_=>rfl) ?_ λ_=>by kernel_rfl
 exact Te
abbrev wj:=aE 141 Pv mM::aE 180 Kz zT::aE 181 Q1 rQ::aE 220 Sj AM::aE 249 Ia wO::aE 219 Pw wT::aE 140 H4 SF::aE 97 Yu BM::aE 113 JBc zH::aE 129 Ls zY::vf
theorem O3:AE wj:=by
 iterate 10 refine eX (λ_=>rfl) ?_ λ_=>by kernel_rfl
 exact Ip
abbrev wo:=aE 226 P8 VH::aE 255 L4 SB::aE 258 Kb SA::aE 182 Kw wR::aE 223 R7 FT::aE 251 X8 BR::aE 250 Y3 JI::aE 252 Za xG::aE 221 Vw nX::aE 118 Qh AT::wj
theorem M8:AE wo:=by
 iterate 10 refine eX (λ_=>rfl) ?_ λ_=>by kernel_rfl
 exact O3
abbrev yn:=aE 183 V6 BL::aE 225 Ke zV::aE 254 Nd kO::aE 224 Py BE::aE 253 Sq AO::aE 257 Tq uE::aE 259 Sg VU::aE 262 Yf ND::aE 261 Y2 sA::aE 260 Ti AN::wo
theorem Wb:AE yn:=by
 iterate 10 refine eX (λ_=>rfl) ?_ λ_=>by kernel_rfl
 exact M8
abbrev u0:=aE 15 G4 wK::aE 8 Yp BU::aE 26 Yw BN::aE 50 He zN::aE 72 Zj BP::aE 96 Y5 pW::aE 101 Zm BV::aE 119 Kg MT::aE 142 Mm wQ::aE 184 O6 AW::yn
theorem Gu:AE u0:=by
 iterate 10 refine eX (λ_=>rfl) ?_ λ_=>by kernel_rfl
 exact Wb
abbrev xv:=aE 62 Tk FS::aE 87 Tn iu::aE 88 Yi WI::aE 7 JAT zM::aE 17 Xs GA::aE 18 Yy WQ::aE 22 X7 WN::aE 47 Zb WT::aE 68 Zg WR::aE 16 Wp FX::u0
theorem S0:AE xv:=by
 iterate 10 refine eX (λ_=>rfl) ?_ λ_=>by kernel_rfl
 exact Gu
abbrev xi:=aE 41 Ov MQ::aE 55 Qt Nm::aE 77 Wv NC::aE 76 Wx rY::aE 74 Ww jX::aE 75 I5 zU::aE 54 Ta AK::aE 30 Ug xw::aE 43 S8 VP::xv
theorem Oq:AE xi:=by
 iterate 9 refine eX (λ_=>rfl) ?_ λ_=>by kernel_rfl
 exact S0
abbrev ul:=aE 58 Gn wJ::xi
theorem Fk:AE ul:=λp=>⟨JHx rfl,Oq p⟩
abbrev va:=aE 61 Fd RX::aE 86 Yj WK::ul
theorem Ew:AE va:=by
 iterate 2 refine eX (λ_=>rfl) ?_ λ_=>by kernel_rfl
 exact Fk
abbrev yo:=aE 60 W9 NB::va
theorem Wt:AE yo:=λp=>⟨JI7 rfl,Ew p⟩
abbrev xz:=aE 27 Wj xE::aE 52 Nj ic::aE 6 Nh VD::aE 20 Mg wP::aE 42 Rl tV::aE 56 Qd FN::aE 78 Ky MR::aE 57 Ht rF::aE 59 X9 WO::yo
theorem xn:AE xz:=by
 iterate 9 refine eX (λ_=>rfl) ?_ λ_=>by kernel_rfl
 exact Wt
noncomputable def DH:PS:=λf=>if f=10 then some (pgP Jy J8 FI)else none
theorem L0:xT DH 10=some (.prim (pgP Jy J8 FI)):=rfl
def AD(l:List TE):Prop:=yF (AF (xT DH)) l
theorem JLY{i g S l f}(hf:xT DH i=some (.fn (aL f)))(A:AD l)(q: ∀x,onO (mY g x) (λy=>uK (TG.of l) f y.1 y.2 (oO g))=S x)(hs:DZ g=true:=by rfl):AD (aE i g S::l):=⟨lz hf A hs q,A⟩
abbrev vz:=aE 10 Ms FI::xz
theorem Mf:AD vz:=⟨JJ2 L0,xn DH⟩
abbrev X1:=aE 4 Xo WL::aE 25 Od BD::aE 11 N1 VC::aE 24 H8 MF::aE 12 G1 LV::aE 35 J8O NI::aE 34 Nx MM::vz
theorem Xn:AD X1:=by
 iterate 7 refine JLY rfl ?_ λ_=>by kernel_rfl
 exact Mf
end
end Go.Am
end
section
namespace Go.Proofs
open Go.Shelf Go.RowKit
def Tryz.ρA:Ren where
 f:=fun
  |105=>60
  |212=>82
  |99=>83
  |165=>84
  |166=>79
  |170=>85
  |169=>81
  |263=>106
  |264=>107
  |206=>108
  |240=>105
  |241=>109
  |276=>124
  |277=>125
  |167=>80
  |n=>n
 t:=fun
  |9=>9
  |3=>3
  |4=>4
  |20=>20
  |0=>0
  |46=>160
  |109=>161
  |5=>5
  |72=>153
  |76=>156
  |51=>129
  |146=>183
  |53=>159
  |148=>185
  |70=>151
  |37=>22
  |75=>155
  |127=>182
  |164=>211
  |80=>98
  |n=>n
 g:=λn=>n
theorem Tryz.laysRep:Lays.n105 Tryz.prog Tryz.ρA where
 mixed:=by kernel_rfl
 f99:=by kernel_rfl
 f105:=by kernel_rfl
 f165:=by kernel_rfl
 f166:=by kernel_rfl
 f169:=by kernel_rfl
 f170:=by kernel_rfl
 f206:=by kernel_rfl
 f212:=by kernel_rfl
 f240:=by kernel_rfl
 f241:=by kernel_rfl
 f263:=by kernel_rfl
 f264:=by kernel_rfl
 f276:=by kernel_rfl
 f277:=by kernel_rfl
 t0:=Tryz.underlying0
 a0:=Tryz.isAgg0
 z0:=Tryz.sizeOf0
 v0:=Tryz.zeroValue0
 t3:=Tryz.underlying3
 a3:=Tryz.isAgg3
 z3:=Tryz.sizeOf3
 v3:=Tryz.zeroValue3
 t4:=Tryz.underlying4
 a4:=Tryz.isAgg4
 z4:=Tryz.sizeOf4
 v4:=Tryz.zeroValue4
 t5:=Tryz.underlying5
 a5:=Tryz.isAgg5
 z5:=Tryz.sizeOf5
 v5:=Tryz.zeroValue5
 t9:=Tryz.underlying9
 a9:=Tryz.isAgg9
 z9:=Tryz.sizeOf9
 v9:=Tryz.zeroValue9
 t20:=Tryz.underlying20
 a20:=Tryz.isAgg20
 z20:=Tryz.sizeOf20
 v20:=Tryz.zeroValue20
 t37:=Tryz.underlying22
 a37:=Tryz.isAgg22
 z37:=Tryz.sizeOf22
 v37:=Tryz.zeroValue22
 t46:=Tryz.underlying160
 a46:=Tryz.isAgg160
 z46:=Tryz.sizeOf160
 v46:=Tryz.zeroValue160
 t51:=Tryz.underlying129
 a51:=Tryz.isAgg129
 z51:=Tryz.sizeOf129
 v51:=Tryz.zeroValue129
 t53:=Tryz.underlying159
 a53:=Tryz.isAgg159
 z53:=Tryz.sizeOf159
 v53:=Tryz.zeroValue159
 t70:=Tryz.underlying151
 a70:=Tryz.isAgg151
 z70:=Tryz.sizeOf151
 v70:=Tryz.zeroValue151
 t72:=Tryz.underlying153
 a72:=Tryz.isAgg153
 z72:=Tryz.sizeOf153
 v72:=Tryz.zeroValue153
 t75:=Tryz.underlying155
 a75:=Tryz.isAgg155
 z75:=Tryz.sizeOf155
 v75:=Tryz.zeroValue155
 t76:=Tryz.underlying156
 a76:=Tryz.isAgg156
 z76:=Tryz.sizeOf156
 v76:=Tryz.zeroValue156
 t109:=Tryz.underlying161
 a109:=Tryz.isAgg161
 z109:=Tryz.sizeOf161
 v109:=Tryz.zeroValue161
 t127:=Tryz.underlying182
 a127:=Tryz.isAgg182
 z127:=Tryz.sizeOf182
 v127:=Tryz.zeroValue182
 t146:=Tryz.underlying183
 a146:=Tryz.isAgg183
 z146:=Tryz.sizeOf183
 v146:=Tryz.zeroValue183
 t148:=Tryz.underlying185
 a148:=Tryz.isAgg185
 z148:=Tryz.sizeOf185
 v148:=Tryz.zeroValue185
 t164:=Tryz.underlying211
 a164:=Tryz.isAgg211
 z164:=Tryz.sizeOf211
 v164:=Tryz.zeroValue211
theorem Tryz.laysWB:Lays.n167 Tryz.prog Tryz.ρA where
 mixed:=by kernel_rfl
 f167:=by kernel_rfl
 f240:=by kernel_rfl
 f276:=by kernel_rfl
 t0:=Tryz.underlying0
 a0:=Tryz.isAgg0
 z0:=Tryz.sizeOf0
 v0:=Tryz.zeroValue0
 t4:=Tryz.underlying4
 a4:=Tryz.isAgg4
 z4:=Tryz.sizeOf4
 v4:=Tryz.zeroValue4
 t5:=Tryz.underlying5
 a5:=Tryz.isAgg5
 z5:=Tryz.sizeOf5
 v5:=Tryz.zeroValue5
 t9:=Tryz.underlying9
 a9:=Tryz.isAgg9
 z9:=Tryz.sizeOf9
 v9:=Tryz.zeroValue9
 t20:=Tryz.underlying20
 a20:=Tryz.isAgg20
 z20:=Tryz.sizeOf20
 v20:=Tryz.zeroValue20
 t37:=Tryz.underlying22
 a37:=Tryz.isAgg22
 z37:=Tryz.sizeOf22
 v37:=Tryz.zeroValue22
 t70:=Tryz.underlying151
 a70:=Tryz.isAgg151
 z70:=Tryz.sizeOf151
 v70:=Tryz.zeroValue151
 t72:=Tryz.underlying153
 a72:=Tryz.isAgg153
 z72:=Tryz.sizeOf153
 v72:=Tryz.zeroValue153
 t75:=Tryz.underlying155
 a75:=Tryz.isAgg155
 z75:=Tryz.sizeOf155
 v75:=Tryz.zeroValue155
 t164:=Tryz.underlying211
 a164:=Tryz.isAgg211
 z164:=Tryz.sizeOf211
 v164:=Tryz.zeroValue211
theorem Tryz.extraRep:Builder.Extra Tryz.prog Tryz.ρA where
 sizeBuilder:=by kernel_rfl
 liesBuilder:=by kernel_rfl
 t5:=Tryz.laysRep.t5
 a5:=Tryz.laysRep.a5
 z5:=Tryz.laysRep.z5
 v5:=Tryz.laysRep.v5
 infoByte:=by kernel_rfl
 cellsByte:=by kernel_rfl
 sizeByte:=by kernel_rfl
 neB5:=by decide
theorem Tryz.WriteByte(B b:Nat)(g:List Value)(c:Int)(w:World)(h:Lib.IsBuilder 153 5 B b g w)(hlen:g.length+1<=140737488355328)(j:B<=w.heap.size):
  Calls Tryz.prog 80 #[.pointer (some ⟨b,0,none⟩),.int .u8 c] w λe w'=>e=.returned .nilIface/\(Lib.BuilderAt 153 5 B b (.pointer (some ⟨b,0,none⟩)) (g++[.int .u8 c]) w'/\Below B w w'):=
 Any.Builder_WriteByte Tryz.laysWB Tryz.extraRep B b g c w h hlen j
theorem Tryz.WriteString(B b:Nat)(g:List Value)(s:ByteArray)(w:World)(h:Lib.IsBuilder 153 5 B b g w)(hlen:g.length+s.size<=140737488355328)(j:B<=w.heap.size):
  Calls Tryz.prog 79 #[.pointer (some ⟨b,0,none⟩),.string s] w λe w'=>e=.returned (.tuple #[.int .i64 s.size,.nilIface])/\(Lib.BuilderAt 153 5 B b (.pointer (some ⟨b,0,none⟩)) (g++Lib.strCells s) w'/\Below B w w'):=
 Any.Builder_WriteString {Tryz.laysRep with} Tryz.extraRep B b g s w h hlen j
theorem Tryz.String(B b:Nat)(l:List UInt8)(w:World)(h:Lib.IsBuilder 153 5 B b (Lib.byteCells l) w)(g:B<=w.heap.size):
  Calls Tryz.prog 81 #[.pointer (some ⟨b,0,none⟩)] w λe w'=>e=.returned (.string ⟨l.toArray⟩)/\Below B w w':=
 Any.Builder_String_any {Tryz.laysRep with} Tryz.extraRep B b l w h g
theorem R6(l:List UInt8)(n:Int)(k:Nat):Lib.byteCells (l++Am.J0E n k)++[.int .u8 (Am.J6N n k)]=Lib.byteCells (l++Am.J0E n (k+1)):=by
 rw[Am.Jqv,<-List.append_assoc,Lib.byteCells_append (l++Am.J0E n k)]
 congr 1
 show [Value.int .u8 _]=[Value.int .u8 ((UInt8.ofNat (Am.J6N n k).toNat).toNat:Int)];rw[Am.Jn1]
set_option maxHeartbeats 6400000 in
set_option maxRecDepth 100000 in
theorem Tryz.put(s:ByteArray)(n:Int)(k:Nat)(hk:1<=k)(B:k<=8)(hs:s.size+8<=140737488355328)(w:World):
  Calls Tryz.prog 58 #[.string s,.int .i64 n,.int .i64 k] w λe w'=>e=.returned (.string ⟨(s.data.toList++Am.J0E n k).toArray⟩)/\Below w.heap.size w w':=by
 have C:s.data.toList.length=s.size:=(Lib.size_eq s).symm;have h0:Lib.IsBuilder 153 5 w.heap.size w.heap.size [] (w.alloc (.cells #[.pointer none,.slice none 0 0] 153)):=Lib.fresh_isBuilder 153 5 w;have b0:Below w.heap.size w (w.alloc (.cells #[.pointer none,.slice none 0 0] 153)):=(Below.refl _ w).alloc (Nat.le_refl _) _
 go_enter Tryz.func58,Tryz.ntmps58
 go_wp2_with (go_at_call 79;refine(Tryz.WriteString w.heap.size w.heap.size [] s _ h0 (by simp;omega) b0.size).mono ?_)
 rintro e v ⟨rfl,h1,b1⟩;have q:Lib.IsBuilder 153 5 w.heap.size w.heap.size (Lib.byteCells (s.data.toList++Am.J0E n 0)) v:=by rw[List.nil_append,Lib.strCells_eq]at h1;have y:Am.J0E n 0=[]:=rfl;rw[y,List.append_nil];exact Or.inr h1
 have r:=b0.trans b1;clear h1 b1 h0 b0
 go_wp2
 go_loopw [19] (λi h=> ∃j:Nat,j<=k/\i=.int .i64 j/\Lib.IsBuilder 153 5 w.heap.size w.heap.size (Lib.byteCells (s.data.toList++Am.J0E n j)) h/\Below w.heap.size w h)
  (λi _=>k-(intOf i).toNat)
 case atStart=>exact⟨0,Nat.zero_le _,rfl,q,r⟩
 case round=>
  obtain⟨j,D,rfl,o,g⟩:=hrel;by_cases A:j<k
  go_wp2_with (go_at_call 80;refine(Tryz.WriteByte w.heap.size w.heap.size _ _ _ o (by rw[Lib.byteCells_length,List.length_append,Am.JX];omega) g.size).mono ?_;rintro e x ⟨rfl,h2,b2⟩)
  have z:Am.J6N n j=IntKind.u64.wrap n/2^(8*j)%256:=by show((IntKind.wrap .u64 n).fdiv (2^(8*j)))%256=_;rw[Int.fdiv_eq_ediv_of_nonneg _ (Int.le_of_lt (Int.pow_pos (by decide)))]
  rw[<-z,R6]at h2;exact⟨⟨j+1,by omega,by simp,Or.inr h2,g.trans b2⟩,by simp[intOf];omega⟩;obtain rfl:j=k:=by omega
  go_wp2_with (go_at_call 81;refine(Tryz.String w.heap.size w.heap.size _ _ o g.size).mono ?_;rintro e x ⟨rfl,b2⟩)
  go_wp2
  go_ret
  exact⟨rfl,g.trans b2⟩
theorem Tryz.put_out(s:ByteArray)(n k:Int)(hk:k<1\/8<k)(w:World):
  Calls Tryz.prog 58 #[.string s,.int .i64 n,.int .i64 k] w λe w'=>e=.returned (.string s)/\Below w.heap.size w w':=by
 go_enter Tryz.func58,Tryz.ntmps58
 go_wp2
 all_goals (go_ret;exact⟨rfl,Below.refl _ _⟩)
theorem o3(l:List UInt8): ∀c,Lib.repeatL l c=(List.replicate c l).flatten|0=>rfl|c+1=>by rw[Lib.repeatL,o3 l c,List.replicate_succ,List.flatten_cons]
theorem pk(l:List UInt8):(⟨l.toArray⟩:ByteArray).data.toList=l:=rfl
theorem Xl(args:List Am.AV)(blks:List Am.Blk)(r:Am.Res)(h:Am.JBR args blks=some r):Am.J5O Tryz.prog 60 args blks r:=by
 unfold Am.JBR at h;split at h;rename_i bl l n;obtain⟨x,e,rfl⟩:=Option.map_eq_some_iff.1 h;unfold Am.Jlc at e;split at e;rename_i g;obtain⟨h0,h1,h2⟩:=g;injection e with e;subst e;refine Am.JpG (xs:=[.s l,.i .i64 n]) (vs:=[.string ⟨l.toArray⟩,.int .i64 n]) (v:=.string ⟨((List.replicate n.toNat l).flatten).toArray⟩) ⟨_,Tryz.func60,by decide,by decide⟩ rfl rfl λw=>?_;have h3:=Any.strings_Repeat Tryz.laysRep Tryz.extraRep ⟨l.toArray⟩ n.toNat w (by omega) (by rw[Lib.size_eq];exact h2);rw[pk,o3,show((n.toNat:Nat):Int)=n by omega]at h3;exact h3;cases e;cases h
theorem I0(args:List Am.AV)(blks:List Am.Blk)(r:Am.Res)(h:Am.JBm args blks=some r):Am.J5O Tryz.prog 58 args blks r:=by
 unfold Am.JBm at h;split at h;rename_i bl l n k;obtain⟨x,e,rfl⟩:=Option.map_eq_some_iff.1 h;unfold Am.Jk7 at e;split at e;rename_i g;injection e with e;subst e;exact Am.JpG (xs:=[.s l,.i .i64 n,.i .i64 k]) (vs:=[.string ⟨l.toArray⟩,.int .i64 n,.int .i64 k]) (v:=.string ⟨l.toArray⟩) ⟨_,Tryz.func58,by decide,by decide⟩ rfl rfl λw=>Tryz.put_out _ n k g w;rename_i g;split at e;rename_i h2;injection e with e;subst e;refine Am.JpG (xs:=[.s l,.i .i64 n,.i .i64 k]) (vs:=[.string ⟨l.toArray⟩,.int .i64 n,.int .i64 k]) (v:=.string ⟨(l++Am.J0E n k.toNat).toArray⟩) ⟨_,Tryz.func58,by decide,by decide⟩ rfl rfl λw=>?_;have h3:=Tryz.put ⟨l.toArray⟩ n k.toNat (by omega) (by omega) (by rw[Lib.size_eq];exact h2) w;rw[pk,show((k.toNat:Nat):Int)=k by omega]at h3;exact h3;cases e;cases h
end Go.Proofs
end

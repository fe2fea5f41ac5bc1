import Derived.Test.YtibipfdpembkgaaGreatDoorPkTopGrace7
set_option linter.unusedSimpArgs false
set_option linter.unusedVariables false
set_option linter.unusedSectionVars false
set_option maxRecDepth 100000
set_option maxHeartbeats 40000000
open Go Go.Ev Go.Proofs
namespace Go.Ev
theorem k3 : (Qf Tryz.f3 && cF Tryz.prog KN c3 Tryz.f3) = true := by decide +kernel
theorem k4 : Qf Tryz.f4 = true := by decide +kernel
theorem k5 : (Qf Tryz.f5 && cF Tryz.prog KN c5 Tryz.f5) = true := by decide +kernel
theorem k6 : (Qf Tryz.f6 && cF Tryz.prog KN c6 Tryz.f6) = true := by decide +kernel
theorem k7 : (Qf Tryz.f7 && cF Tryz.prog KN c7 Tryz.f7) = true := by decide +kernel
theorem k8 : (Qf Tryz.f8 && cF Tryz.prog KN c8 Tryz.f8) = true := by decide +kernel
theorem k9 : (Qf Tryz.f9 && cF Tryz.prog KN c9 Tryz.f9) = true := by decide +kernel
theorem k10 : (Qf Tryz.f10 && cF Tryz.prog KN c10 Tryz.f10) = true := by decide +kernel
theorem k11 : (Qf Tryz.f11 && cF Tryz.prog KN c11 Tryz.f11) = true := by decide +kernel
theorem k12 : (Qf Tryz.f12 && cF Tryz.prog KN c12 Tryz.f12) = true := by decide +kernel
theorem k13 : (Qf Tryz.f13 && cF Tryz.prog KN c13 Tryz.f13) = true := by decide +kernel
theorem k14 : (Qf Tryz.f14 && cF Tryz.prog KN c14 Tryz.f14) = true := by decide +kernel
theorem k15 : (Qf Tryz.f15 && cF Tryz.prog KN c15 Tryz.f15) = true := by decide +kernel
theorem k16 : (Qf Tryz.f16 && cF Tryz.prog KN c16 Tryz.f16) = true := by decide +kernel
theorem k17 : (Qf Tryz.f17 && cF Tryz.prog KN c17 Tryz.f17) = true := by decide +kernel
theorem k18 : (Qf Tryz.f18 && cF Tryz.prog KN c18 Tryz.f18) = true := by decide +kernel
theorem k19 : (Qf Tryz.f19 && cF Tryz.prog KN c19 Tryz.f19) = true := by decide +kernel
theorem k20 : (Qf Tryz.f20 && cF Tryz.prog KN c20 Tryz.f20) = true := by decide +kernel
theorem k21 : (Qf Tryz.f21 && cF Tryz.prog KN c21 Tryz.f21) = true := by decide +kernel
theorem k22 : (Qf Tryz.f22 && cF Tryz.prog KN c22 Tryz.f22) = true := by decide +kernel
theorem k23 : (Qf Tryz.f23 && cF Tryz.prog KN c23 Tryz.f23) = true := by decide +kernel
theorem k24 : (Qf Tryz.f24 && cF Tryz.prog KN c24 Tryz.f24) = true := by decide +kernel
theorem k25 : (Qf Tryz.f25 && cF Tryz.prog KN c25 Tryz.f25) = true := by decide +kernel
theorem k26 : (Qf Tryz.f26 && cF Tryz.prog KN c26 Tryz.f26) = true := by decide +kernel
theorem k27 : (Qf Tryz.f27 && cF Tryz.prog KN c27 Tryz.f27) = true := by decide +kernel
theorem k28 : (Qf Tryz.f28 && cF Tryz.prog KN c28 Tryz.f28) = true := by decide +kernel
theorem k29 : (Qf Tryz.f29 && cF Tryz.prog KN c29 Tryz.f29) = true := by decide +kernel
theorem k30 : (Qf Tryz.f30 && cF Tryz.prog KN c30 Tryz.f30) = true := by decide +kernel
theorem k31 : (Qf Tryz.f31 && cF Tryz.prog KN c31 Tryz.f31) = true := by decide +kernel
theorem k32 : (Qf Tryz.f32 && cF Tryz.prog KN c32 Tryz.f32) = true := by decide +kernel
theorem k33 : (Qf Tryz.f33 && cF Tryz.prog KN c33 Tryz.f33) = true := by decide +kernel
theorem k34 : (Qf Tryz.f34 && cF Tryz.prog KN c34 Tryz.f34) = true := by decide +kernel
theorem k35 : (Qf Tryz.f35 && cF Tryz.prog KN c35 Tryz.f35) = true := by decide +kernel
theorem k36 : (Qf Tryz.f36 && cF Tryz.prog KN c36 Tryz.f36) = true := by decide +kernel
theorem k37 : (Qf Tryz.f37 && cF Tryz.prog KN c37 Tryz.f37) = true := by decide +kernel
theorem k38 : (Qf Tryz.f38 && cF Tryz.prog KN c38 Tryz.f38) = true := by decide +kernel
theorem k39 : (Qf Tryz.f39 && cF Tryz.prog KN c39 Tryz.f39) = true := by decide +kernel
theorem k40 : (Qf Tryz.f40 && cF Tryz.prog KN c40 Tryz.f40) = true := by decide +kernel
theorem k41 : (Qf Tryz.f41 && cF Tryz.prog KN c41 Tryz.f41) = true := by decide +kernel
theorem k42 : (Qf Tryz.f42 && cF Tryz.prog KN c42 Tryz.f42) = true := by decide +kernel
theorem k43 : (Qf Tryz.f43 && cF Tryz.prog KN c43 Tryz.f43) = true := by decide +kernel
theorem k44 : (Qf Tryz.f44 && cF Tryz.prog KN c44 Tryz.f44) = true := by decide +kernel
theorem k45 : (Qf Tryz.f45 && cF Tryz.prog KN c45 Tryz.f45) = true := by decide +kernel
theorem k47 : (Qf Tryz.f47 && cF Tryz.prog KN c47 Tryz.f47) = true := by decide +kernel
theorem k48 : (Qf Tryz.f48 && cF Tryz.prog KN c48 Tryz.f48) = true := by decide +kernel
theorem k49 : (Qf Tryz.f49 && cF Tryz.prog KN c49 Tryz.f49) = true := by decide +kernel
theorem k50 : (Qf Tryz.f50 && cF Tryz.prog KN c50 Tryz.f50) = true := by decide +kernel
theorem k51 : (Qf Tryz.f51 && cF Tryz.prog KN c51 Tryz.f51) = true := by decide +kernel
theorem k52 : (Qf Tryz.f52 && cF Tryz.prog KN c52 Tryz.f52) = true := by decide +kernel
theorem k53 : (Qf Tryz.f53 && cF Tryz.prog KN c53 Tryz.f53) = true := by decide +kernel
theorem k54 : (Qf Tryz.f54 && cF Tryz.prog KN c54 Tryz.f54) = true := by decide +kernel
theorem k55 : (Qf Tryz.f55 && cF Tryz.prog KN c55 Tryz.f55) = true := by decide +kernel
theorem k56 : (Qf Tryz.f56 && cF Tryz.prog KN c56 Tryz.f56) = true := by decide +kernel
theorem k57 : (Qf Tryz.f57 && cF Tryz.prog KN c57 Tryz.f57) = true := by decide +kernel
theorem k58 : (Qf Tryz.f58 && cF Tryz.prog KN c58 Tryz.f58) = true := by decide +kernel
theorem k59 : (Qf Tryz.f59 && cF Tryz.prog KN c59 Tryz.f59) = true := by decide +kernel
theorem k60 : (Qf Tryz.f60 && cF Tryz.prog KN c60 Tryz.f60) = true := by decide +kernel
theorem k61 : (Qf Tryz.f61 && cF Tryz.prog KN c61 Tryz.f61) = true := by decide +kernel
theorem k62 : (Qf Tryz.f62 && cF Tryz.prog KN c62 Tryz.f62) = true := by decide +kernel
theorem k64 : (Qf Tryz.f64 && cF Tryz.prog KN c64 Tryz.f64) = true := by decide +kernel
theorem k65 : (Qf Tryz.f65 && cF Tryz.prog KN c65 Tryz.f65) = true := by decide +kernel
theorem k68 : (Qf Tryz.f68 && cF Tryz.prog KN c68 Tryz.f68) = true := by decide +kernel
theorem k69 : (Qf Tryz.f69 && cF Tryz.prog KN c69 Tryz.f69) = true := by decide +kernel
theorem k70 : (Qf Tryz.f70 && cF Tryz.prog KN c70 Tryz.f70) = true := by decide +kernel
theorem k71 : (Qf Tryz.f71 && cF Tryz.prog KN c71 Tryz.f71) = true := by decide +kernel
theorem k72 : (Qf Tryz.f72 && cF Tryz.prog KN c72 Tryz.f72) = true := by decide +kernel
theorem k73 : (Qf Tryz.f73 && cF Tryz.prog KN c73 Tryz.f73) = true := by decide +kernel
theorem k74 : (Qf Tryz.f74 && cF Tryz.prog KN c74 Tryz.f74) = true := by decide +kernel
theorem k75 : (Qf Tryz.f75 && cF Tryz.prog KN c75 Tryz.f75) = true := by decide +kernel
theorem k76 : (Qf Tryz.f76 && cF Tryz.prog KN c76 Tryz.f76) = true := by decide +kernel
theorem k77 : (Qf Tryz.f77 && cF Tryz.prog KN c77 Tryz.f77) = true := by decide +kernel
theorem k78 : (Qf Tryz.f78 && cF Tryz.prog KN c78 Tryz.f78) = true := by decide +kernel
theorem k79 : (Qf Tryz.f79 && cF Tryz.prog KN c79 Tryz.f79) = true := by decide +kernel
theorem k80 : (Qf Tryz.f80 && cF Tryz.prog KN c80 Tryz.f80) = true := by decide +kernel
theorem k81 : (Qf Tryz.f81 && cF Tryz.prog KN c81 Tryz.f81) = true := by decide +kernel
theorem k82 : (Qf Tryz.f82 && cF Tryz.prog KN c82 Tryz.f82) = true := by decide +kernel
theorem k83 : (Qf Tryz.f83 && cF Tryz.prog KN c83 Tryz.f83) = true := by decide +kernel
theorem k84 : (Qf Tryz.f84 && cF Tryz.prog KN c84 Tryz.f84) = true := by decide +kernel
theorem k85 : (Qf Tryz.f85 && cF Tryz.prog KN c85 Tryz.f85) = true := by decide +kernel
theorem k86 : (Qf Tryz.f86 && cF Tryz.prog KN c86 Tryz.f86) = true := by decide +kernel
theorem k87 : Qf Tryz.f87 = true := by decide +kernel
theorem k88 : (Qf Tryz.f88 && cF Tryz.prog KN c88 Tryz.f88) = true := by decide +kernel
theorem k89 : (Qf Tryz.f89 && cF Tryz.prog KN c89 Tryz.f89) = true := by decide +kernel
theorem k90 : (Qf Tryz.f90 && cF Tryz.prog KN c90 Tryz.f90) = true := by decide +kernel
theorem k91 : (Qf Tryz.f91 && cF Tryz.prog KN c91 Tryz.f91) = true := by decide +kernel
theorem k92 : (Qf Tryz.f92 && cF Tryz.prog KN c92 Tryz.f92) = true := by decide +kernel
theorem k93 : (Qf Tryz.f93 && cF Tryz.prog KN c93 Tryz.f93) = true := by decide +kernel
theorem k95 : (Qf Tryz.f95 && cF Tryz.prog KN c95 Tryz.f95) = true := by decide +kernel
theorem k96 : (Qf Tryz.f96 && cF Tryz.prog KN c96 Tryz.f96) = true := by decide +kernel
theorem k97 : (Qf Tryz.f97 && cF Tryz.prog KN c97 Tryz.f97) = true := by decide +kernel
theorem k98 : (Qf Tryz.f98 && cF Tryz.prog KN c98 Tryz.f98) = true := by decide +kernel
theorem k99 : (Qf Tryz.f99 && cF Tryz.prog KN c99 Tryz.f99) = true := by decide +kernel
theorem k100 : (Qf Tryz.f100 && cF Tryz.prog KN c100 Tryz.f100) = true := by decide +kernel
theorem k101 : (Qf Tryz.f101 && cF Tryz.prog KN c101 Tryz.f101) = true := by decide +kernel
theorem k102 : (Qf Tryz.f102 && cF Tryz.prog KN c102 Tryz.f102) = true := by decide +kernel
theorem k103 : (Qf Tryz.f103 && cF Tryz.prog KN c103 Tryz.f103) = true := by decide +kernel
theorem k104 : (Qf Tryz.f104 && cF Tryz.prog KN c104 Tryz.f104) = true := by decide +kernel
theorem k105 : (Qf Tryz.f105 && cF Tryz.prog KN c105 Tryz.f105) = true := by decide +kernel
theorem k106 : (Qf Tryz.f106 && cF Tryz.prog KN c106 Tryz.f106) = true := by decide +kernel
theorem k107 : (Qf Tryz.f107 && cF Tryz.prog KN c107 Tryz.f107) = true := by decide +kernel
theorem k108 : (Qf Tryz.f108 && cF Tryz.prog KN c108 Tryz.f108) = true := by decide +kernel
theorem k110 : (Qf Tryz.f110 && cF Tryz.prog KN c110 Tryz.f110) = true := by decide +kernel
theorem k111 : (Qf Tryz.f111 && cF Tryz.prog KN c111 Tryz.f111) = true := by decide +kernel
theorem k112 : (Qf Tryz.f112 && cF Tryz.prog KN c112 Tryz.f112) = true := by decide +kernel
theorem k113 : (Qf Tryz.f113 && cF Tryz.prog KN c113 Tryz.f113) = true := by decide +kernel
theorem k114 : (Qf Tryz.f114 && cF Tryz.prog KN c114 Tryz.f114) = true := by decide +kernel
theorem k115 : (Qf Tryz.f115 && cF Tryz.prog KN c115 Tryz.f115) = true := by decide +kernel
theorem k116 : (Qf Tryz.f116 && cF Tryz.prog KN c116 Tryz.f116) = true := by decide +kernel
theorem k117 : (Qf Tryz.f117 && cF Tryz.prog KN c117 Tryz.f117) = true := by decide +kernel
theorem k118 : (Qf Tryz.f118 && cF Tryz.prog KN c118 Tryz.f118) = true := by decide +kernel
theorem k120 : (Qf Tryz.f120 && cF Tryz.prog KN c120 Tryz.f120) = true := by decide +kernel
theorem k121 : (Qf Tryz.f121 && cF Tryz.prog KN c121 Tryz.f121) = true := by decide +kernel
theorem k125 : (Qf Tryz.f125 && cF Tryz.prog KN c125 Tryz.f125) = true := by decide +kernel
theorem k128 : (Qf Tryz.f128 && cF Tryz.prog KN c128 Tryz.f128) = true := by decide +kernel
theorem k129 : (Qf Tryz.f129 && cF Tryz.prog KN c129 Tryz.f129) = true := by decide +kernel
theorem k130 : (Qf Tryz.f130 && cF Tryz.prog KN c130 Tryz.f130) = true := by decide +kernel
theorem k131 : (Qf Tryz.f131 && cF Tryz.prog KN c131 Tryz.f131) = true := by decide +kernel
theorem k132 : (Qf Tryz.f132 && cF Tryz.prog KN c132 Tryz.f132) = true := by decide +kernel
theorem k134 : (Qf Tryz.f134 && cF Tryz.prog KN c134 Tryz.f134) = true := by decide +kernel
theorem k135 : (Qf Tryz.f135 && cF Tryz.prog KN c135 Tryz.f135) = true := by decide +kernel
theorem k136 : (Qf Tryz.f136 && cF Tryz.prog KN c136 Tryz.f136) = true := by decide +kernel
theorem k137 : (Qf Tryz.f137 && cF Tryz.prog KN c137 Tryz.f137) = true := by decide +kernel
theorem k138 : (Qf Tryz.f138 && cF Tryz.prog KN c138 Tryz.f138) = true := by decide +kernel
theorem k140 : (Qf Tryz.f140 && cF Tryz.prog KN c140 Tryz.f140) = true := by decide +kernel
theorem k141 : (Qf Tryz.f141 && cF Tryz.prog KN c141 Tryz.f141) = true := by decide +kernel
theorem k142 : (Qf Tryz.f142 && cF Tryz.prog KN c142 Tryz.f142) = true := by decide +kernel
theorem k143 : (Qf Tryz.f143 && cF Tryz.prog KN c143 Tryz.f143) = true := by decide +kernel
theorem k144 : (Qf Tryz.f144 && cF Tryz.prog KN c144 Tryz.f144) = true := by decide +kernel
theorem k145 : (Qf Tryz.f145 && cF Tryz.prog KN c145 Tryz.f145) = true := by decide +kernel
theorem k146 : (Qf Tryz.f146 && cF Tryz.prog KN c146 Tryz.f146) = true := by decide +kernel
theorem k149 : (Qf Tryz.f149 && cF Tryz.prog KN c149 Tryz.f149) = true := by decide +kernel
theorem k150 : (Qf Tryz.f150 && cF Tryz.prog KN c150 Tryz.f150) = true := by decide +kernel
theorem k151 : (Qf Tryz.f151 && cF Tryz.prog KN c151 Tryz.f151) = true := by decide +kernel
theorem k152 : (Qf Tryz.f152 && cF Tryz.prog KN c152 Tryz.f152) = true := by decide +kernel
theorem k153 : (Qf Tryz.f153 && cF Tryz.prog KN c153 Tryz.f153) = true := by decide +kernel
theorem k154 : (Qf Tryz.f154 && cF Tryz.prog KN c154 Tryz.f154) = true := by decide +kernel
theorem k155 : (Qf Tryz.f155 && cF Tryz.prog KN c155 Tryz.f155) = true := by decide +kernel
theorem k156 : (Qf Tryz.f156 && cF Tryz.prog KN c156 Tryz.f156) = true := by decide +kernel
theorem k157 : (Qf Tryz.f157 && cF Tryz.prog KN c157 Tryz.f157) = true := by decide +kernel
theorem k158 : (Qf Tryz.f158 && cF Tryz.prog KN c158 Tryz.f158) = true := by decide +kernel
theorem k159 : (Qf Tryz.f159 && cF Tryz.prog KN c159 Tryz.f159) = true := by decide +kernel
theorem k160 : (Qf Tryz.f160 && cF Tryz.prog KN c160 Tryz.f160) = true := by decide +kernel
theorem k161 : (Qf Tryz.f161 && cF Tryz.prog KN c161 Tryz.f161) = true := by decide +kernel
theorem k162 : (Qf Tryz.f162 && cF Tryz.prog KN c162 Tryz.f162) = true := by decide +kernel
theorem k163 : (Qf Tryz.f163 && cF Tryz.prog KN c163 Tryz.f163) = true := by decide +kernel
theorem k164 : (Qf Tryz.f164 && cF Tryz.prog KN c164 Tryz.f164) = true := by decide +kernel
theorem k166 : (Qf Tryz.f166 && cF Tryz.prog KN c166 Tryz.f166) = true := by decide +kernel
theorem k167 : (Qf Tryz.f167 && cF Tryz.prog KN c167 Tryz.f167) = true := by decide +kernel
theorem k168 : (Qf Tryz.f168 && cF Tryz.prog KN c168 Tryz.f168) = true := by decide +kernel
theorem k169 : (Qf Tryz.f169 && cF Tryz.prog KN c169 Tryz.f169) = true := by decide +kernel
theorem k170 : (Qf Tryz.f170 && cF Tryz.prog KN c170 Tryz.f170) = true := by decide +kernel
theorem k171 : (Qf Tryz.f171 && cF Tryz.prog KN c171 Tryz.f171) = true := by decide +kernel
theorem k172 : (Qf Tryz.f172 && cF Tryz.prog KN c172 Tryz.f172) = true := by decide +kernel
theorem k173 : (Qf Tryz.f173 && cF Tryz.prog KN c173 Tryz.f173) = true := by decide +kernel
theorem k174 : (Qf Tryz.f174 && cF Tryz.prog KN c174 Tryz.f174) = true := by decide +kernel
theorem k175 : (Qf Tryz.f175 && cF Tryz.prog KN c175 Tryz.f175) = true := by decide +kernel
theorem k176 : (Qf Tryz.f176 && cF Tryz.prog KN c176 Tryz.f176) = true := by decide +kernel
theorem k177 : (Qf Tryz.f177 && cF Tryz.prog KN c177 Tryz.f177) = true := by decide +kernel
theorem k178 : (Qf Tryz.f178 && cF Tryz.prog KN c178 Tryz.f178) = true := by decide +kernel
theorem k179 : (Qf Tryz.f179 && cF Tryz.prog KN c179 Tryz.f179) = true := by decide +kernel
theorem k181 : (Qf Tryz.f181 && cF Tryz.prog KN c181 Tryz.f181) = true := by decide +kernel
theorem k182 : (Qf Tryz.f182 && cF Tryz.prog KN c182 Tryz.f182) = true := by decide +kernel
theorem k185 : (Qf Tryz.f185 && cF Tryz.prog KN c185 Tryz.f185) = true := by decide +kernel
theorem k186 : (Qf Tryz.f186 && cF Tryz.prog KN c186 Tryz.f186) = true := by decide +kernel
theorem k187 : (Qf Tryz.f187 && cF Tryz.prog KN c187 Tryz.f187) = true := by decide +kernel
theorem k189 : (Qf Tryz.f189 && cF Tryz.prog KN c189 Tryz.f189) = true := by decide +kernel
theorem k190 : (Qf Tryz.f190 && cF Tryz.prog KN c190 Tryz.f190) = true := by decide +kernel
theorem k191 : (Qf Tryz.f191 && cF Tryz.prog KN c191 Tryz.f191) = true := by decide +kernel
theorem k192 : (Qf Tryz.f192 && cF Tryz.prog KN c192 Tryz.f192) = true := by decide +kernel
theorem k193 : (Qf Tryz.f193 && cF Tryz.prog KN c193 Tryz.f193) = true := by decide +kernel
theorem k194 : (Qf Tryz.f194 && cF Tryz.prog KN c194 Tryz.f194) = true := by decide +kernel
theorem k196 : (Qf Tryz.f196 && cF Tryz.prog KN c196 Tryz.f196) = true := by decide +kernel
theorem k197 : (Qf Tryz.f197 && cF Tryz.prog KN c197 Tryz.f197) = true := by decide +kernel
theorem k198 : (Qf Tryz.f198 && cF Tryz.prog KN c198 Tryz.f198) = true := by decide +kernel
theorem k199 : (Qf Tryz.f199 && cF Tryz.prog KN c199 Tryz.f199) = true := by decide +kernel
theorem k200 : (Qf Tryz.f200 && cF Tryz.prog KN c200 Tryz.f200) = true := by decide +kernel
theorem k201 : (Qf Tryz.f201 && cF Tryz.prog KN c201 Tryz.f201) = true := by decide +kernel
theorem k202 : (Qf Tryz.f202 && cF Tryz.prog KN c202 Tryz.f202) = true := by decide +kernel
theorem k203 : (Qf Tryz.f203 && cF Tryz.prog KN c203 Tryz.f203) = true := by decide +kernel
theorem k204 : (Qf Tryz.f204 && cF Tryz.prog KN c204 Tryz.f204) = true := by decide +kernel
theorem k205 : (Qf Tryz.f205 && cF Tryz.prog KN c205 Tryz.f205) = true := by decide +kernel
theorem k206 : (Qf Tryz.f206 && cF Tryz.prog KN c206 Tryz.f206) = true := by decide +kernel
theorem k207 : (Qf Tryz.f207 && cF Tryz.prog KN c207 Tryz.f207) = true := by decide +kernel
theorem k208 : (Qf Tryz.f208 && cF Tryz.prog KN c208 Tryz.f208) = true := by decide +kernel
theorem k209 : (Qf Tryz.f209 && cF Tryz.prog KN c209 Tryz.f209) = true := by decide +kernel
theorem k210 : (Qf Tryz.f210 && cF Tryz.prog KN c210 Tryz.f210) = true := by decide +kernel
theorem k211 : (Qf Tryz.f211 && cF Tryz.prog KN c211 Tryz.f211) = true := by decide +kernel
theorem k213 : (Qf Tryz.f213 && cF Tryz.prog KN c213 Tryz.f213) = true := by decide +kernel
theorem k214 : (Qf Tryz.f214 && cF Tryz.prog KN c214 Tryz.f214) = true := by decide +kernel
theorem k215 : (Qf Tryz.f215 && cF Tryz.prog KN c215 Tryz.f215) = true := by decide +kernel
theorem k216 : (Qf Tryz.f216 && cF Tryz.prog KN c216 Tryz.f216) = true := by decide +kernel
theorem k217 : (Qf Tryz.f217 && cF Tryz.prog KN c217 Tryz.f217) = true := by decide +kernel
theorem k218 : (Qf Tryz.f218 && cF Tryz.prog KN c218 Tryz.f218) = true := by decide +kernel
theorem k219 : (Qf Tryz.f219 && cF Tryz.prog KN c219 Tryz.f219) = true := by decide +kernel
theorem k221 : (Qf Tryz.f221 && cF Tryz.prog KN c221 Tryz.f221) = true := by decide +kernel
theorem k227 : (Qf Tryz.f227 && cF Tryz.prog KN c227 Tryz.f227) = true := by decide +kernel
theorem k231 : (Qf Tryz.f231 && cF Tryz.prog KN c231 Tryz.f231) = true := by decide +kernel
theorem k232 : (Qf Tryz.f232 && cF Tryz.prog KN c232 Tryz.f232) = true := by decide +kernel
theorem k233 : (Qf Tryz.f233 && cF Tryz.prog KN c233 Tryz.f233) = true := by decide +kernel
theorem k234 : (Qf Tryz.f234 && cF Tryz.prog KN c234 Tryz.f234) = true := by decide +kernel
theorem k235 : (Qf Tryz.f235 && cF Tryz.prog KN c235 Tryz.f235) = true := by decide +kernel
theorem k236 : (Qf Tryz.f236 && cF Tryz.prog KN c236 Tryz.f236) = true := by decide +kernel
theorem k237 : (Qf Tryz.f237 && cF Tryz.prog KN c237 Tryz.f237) = true := by decide +kernel
theorem k238 : (Qf Tryz.f238 && cF Tryz.prog KN c238 Tryz.f238) = true := by decide +kernel
theorem k239 : (Qf Tryz.f239 && cF Tryz.prog KN c239 Tryz.f239) = true := by decide +kernel
theorem k240 : (Qf Tryz.f240 && cF Tryz.prog KN c240 Tryz.f240) = true := by decide +kernel
theorem k241 : (Qf Tryz.f241 && cF Tryz.prog KN c241 Tryz.f241) = true := by decide +kernel
theorem k242 : (Qf Tryz.f242 && cF Tryz.prog KN c242 Tryz.f242) = true := by decide +kernel
theorem k243 : Qf Tryz.f243 = true := by decide +kernel
theorem k244 : (Qf Tryz.f244 && cF Tryz.prog KN c244 Tryz.f244) = true := by decide +kernel
theorem k247 : (Qf Tryz.f247 && cF Tryz.prog KN c247 Tryz.f247) = true := by decide +kernel
theorem k248 : (Qf Tryz.f248 && cF Tryz.prog KN c248 Tryz.f248) = true := by decide +kernel
theorem k249 : (Qf Tryz.f249 && cF Tryz.prog KN c249 Tryz.f249) = true := by decide +kernel
theorem k253 : (Qf Tryz.f253 && cF Tryz.prog KN c253 Tryz.f253) = true := by decide +kernel
theorem k254 : (Qf Tryz.f254 && cF Tryz.prog KN c254 Tryz.f254) = true := by decide +kernel
theorem k255 : (Qf Tryz.f255 && cF Tryz.prog KN c255 Tryz.f255) = true := by decide +kernel
theorem k256 : (Qf Tryz.f256 && cF Tryz.prog KN c256 Tryz.f256) = true := by decide +kernel
theorem k257 : (Qf Tryz.f257 && cF Tryz.prog KN c257 Tryz.f257) = true := by decide +kernel
theorem k258 : (Qf Tryz.f258 && cF Tryz.prog KN c258 Tryz.f258) = true := by decide +kernel
theorem k259 : (Qf Tryz.f259 && cF Tryz.prog KN c259 Tryz.f259) = true := by decide +kernel
theorem k260 : (Qf Tryz.f260 && cF Tryz.prog KN c260 Tryz.f260) = true := by decide +kernel
theorem k261 : (Qf Tryz.f261 && cF Tryz.prog KN c261 Tryz.f261) = true := by decide +kernel
theorem k262 : (Qf Tryz.f262 && cF Tryz.prog KN c262 Tryz.f262) = true := by decide +kernel
theorem k263 : (Qf Tryz.f263 && cF Tryz.prog KN c263 Tryz.f263) = true := by decide +kernel
theorem k264 : (Qf Tryz.f264 && cF Tryz.prog KN c264 Tryz.f264) = true := by decide +kernel
theorem k265 : (Qf Tryz.f265 && cF Tryz.prog KN c265 Tryz.f265) = true := by decide +kernel
theorem k266 : (Qf Tryz.f266 && cF Tryz.prog KN c266 Tryz.f266) = true := by decide +kernel
theorem k274 : (Qf Tryz.f274 && cF Tryz.prog KN c274 Tryz.f274) = true := by decide +kernel
theorem k275 : (Qf Tryz.f275 && cF Tryz.prog KN c275 Tryz.f275) = true := by decide +kernel
theorem k276 : (Qf Tryz.f276 && cF Tryz.prog KN c276 Tryz.f276) = true := by decide +kernel
theorem k277 : (Qf Tryz.f277 && cF Tryz.prog KN c277 Tryz.f277) = true := by decide +kernel
theorem k278 : (Qf Tryz.f278 && cF Tryz.prog KN c278 Tryz.f278) = true := by decide +kernel
theorem k285 : (Qf Tryz.f285 && cF Tryz.prog KN c285 Tryz.f285) = true := by decide +kernel
theorem k286 : (Qf Tryz.f286 && cF Tryz.prog KN c286 Tryz.f286) = true := by decide +kernel
theorem k287 : (Qf Tryz.f287 && cF Tryz.prog KN c287 Tryz.f287) = true := by decide +kernel
theorem k288 : (Qf Tryz.f288 && cF Tryz.prog KN c288 Tryz.f288) = true := by decide +kernel
theorem k289 : (Qf Tryz.f289 && cF Tryz.prog KN c289 Tryz.f289) = true := by decide +kernel
theorem k290 : (Qf Tryz.f290 && cF Tryz.prog KN c290 Tryz.f290) = true := by decide +kernel
theorem k291 : (Qf Tryz.f291 && cF Tryz.prog KN c291 Tryz.f291) = true := by decide +kernel
theorem k292 : (Qf Tryz.f292 && cF Tryz.prog KN c292 Tryz.f292) = true := by decide +kernel
theorem k293 : (Qf Tryz.f293 && cF Tryz.prog KN c293 Tryz.f293) = true := by decide +kernel
theorem k294 : (Qf Tryz.f294 && cF Tryz.prog KN c294 Tryz.f294) = true := by decide +kernel
theorem k295 : (Qf Tryz.f295 && cF Tryz.prog KN c295 Tryz.f295) = true := by decide +kernel
theorem k299 : (Qf Tryz.f299 && cF Tryz.prog KN c299 Tryz.f299) = true := by decide +kernel
theorem k300 : (Qf Tryz.f300 && cF Tryz.prog KN c300 Tryz.f300) = true := by decide +kernel
theorem k301 : (Qf Tryz.f301 && cF Tryz.prog KN c301 Tryz.f301) = true := by decide +kernel
theorem k302 : (Qf Tryz.f302 && cF Tryz.prog KN c302 Tryz.f302) = true := by decide +kernel
theorem k303 : (Qf Tryz.f303 && cF Tryz.prog KN c303 Tryz.f303) = true := by decide +kernel
theorem k304 : (Qf Tryz.f304 && cF Tryz.prog KN c304 Tryz.f304) = true := by decide +kernel
theorem k308 : (Qf Tryz.f308 && cF Tryz.prog KN c308 Tryz.f308) = true := by decide +kernel
theorem k309 : (Qf Tryz.f309 && cF Tryz.prog KN c309 Tryz.f309) = true := by decide +kernel
theorem k310 : (Qf Tryz.f310 && cF Tryz.prog KN c310 Tryz.f310) = true := by decide +kernel
theorem k311 : (Qf Tryz.f311 && cF Tryz.prog KN c311 Tryz.f311) = true := by decide +kernel
theorem k312 : (Qf Tryz.f312 && cF Tryz.prog KN c312 Tryz.f312) = true := by decide +kernel
theorem k313 : (Qf Tryz.f313 && cF Tryz.prog KN c313 Tryz.f313) = true := by decide +kernel
theorem k318 : (Qf Tryz.f318 && cF Tryz.prog KN c318 Tryz.f318) = true := by decide +kernel
theorem k319 : (Qf Tryz.f319 && cF Tryz.prog KN c319 Tryz.f319) = true := by decide +kernel
theorem k320 : (Qf Tryz.f320 && cF Tryz.prog KN c320 Tryz.f320) = true := by decide +kernel
theorem k321 : (Qf Tryz.f321 && cF Tryz.prog KN c321 Tryz.f321) = true := by decide +kernel
theorem k329 : (Qf Tryz.f329 && cF Tryz.prog KN c329 Tryz.f329) = true := by decide +kernel
theorem k330 : (Qf Tryz.f330 && cF Tryz.prog KN c330 Tryz.f330) = true := by decide +kernel
theorem k331 : (Qf Tryz.f331 && cF Tryz.prog KN c331 Tryz.f331) = true := by decide +kernel
theorem k338 : (Qf Tryz.f338 && cF Tryz.prog KN c338 Tryz.f338) = true := by decide +kernel
theorem k339 : (Qf Tryz.f339 && cF Tryz.prog KN c339 Tryz.f339) = true := by decide +kernel
theorem k340 : (Qf Tryz.f340 && cF Tryz.prog KN c340 Tryz.f340) = true := by decide +kernel
theorem k341 : (Qf Tryz.f341 && cF Tryz.prog KN c341 Tryz.f341) = true := by decide +kernel
theorem k342 : (Qf Tryz.f342 && cF Tryz.prog KN c342 Tryz.f342) = true := by decide +kernel
theorem k343 : (Qf Tryz.f343 && cF Tryz.prog KN c343 Tryz.f343) = true := by decide +kernel
theorem k344 : (Qf Tryz.f344 && cF Tryz.prog KN c344 Tryz.f344) = true := by decide +kernel
theorem k345 : (Qf Tryz.f345 && cF Tryz.prog KN c345 Tryz.f345) = true := by decide +kernel
theorem k347 : (Qf Tryz.f347 && cF Tryz.prog KN c347 Tryz.f347) = true := by decide +kernel
theorem k349 : (Qf Tryz.f349 && cF Tryz.prog KN c349 Tryz.f349) = true := by decide +kernel
theorem k350 : (Qf Tryz.f350 && cF Tryz.prog KN c350 Tryz.f350) = true := by decide +kernel
theorem k351 : (Qf Tryz.f351 && cF Tryz.prog KN c351 Tryz.f351) = true := by decide +kernel
theorem k352 : (Qf Tryz.f352 && cF Tryz.prog KN c352 Tryz.f352) = true := by decide +kernel
theorem k353 : (Qf Tryz.f353 && cF Tryz.prog KN c353 Tryz.f353) = true := by decide +kernel
theorem k354 : (Qf Tryz.f354 && cF Tryz.prog KN c354 Tryz.f354) = true := by decide +kernel
theorem k355 : (Qf Tryz.f355 && cF Tryz.prog KN c355 Tryz.f355) = true := by decide +kernel
theorem k356 : (Qf Tryz.f356 && cF Tryz.prog KN c356 Tryz.f356) = true := by decide +kernel
theorem k358 : (Qf Tryz.f358 && cF Tryz.prog KN c358 Tryz.f358) = true := by decide +kernel
theorem k359 : (Qf Tryz.f359 && cF Tryz.prog KN c359 Tryz.f359) = true := by decide +kernel
theorem k373 : (Qf Tryz.f373 && cF Tryz.prog KN c373 Tryz.f373) = true := by decide +kernel
theorem k374 : (Qf Tryz.f374 && cF Tryz.prog KN c374 Tryz.f374) = true := by decide +kernel
theorem k375 : (Qf Tryz.f375 && cF Tryz.prog KN c375 Tryz.f375) = true := by decide +kernel
theorem k376 : (Qf Tryz.f376 && cF Tryz.prog KN c376 Tryz.f376) = true := by decide +kernel
theorem k377 : (Qf Tryz.f377 && cF Tryz.prog KN c377 Tryz.f377) = true := by decide +kernel
theorem k381 : (Qf Tryz.f381 && cF Tryz.prog KN c381 Tryz.f381) = true := by decide +kernel
theorem k382 : (Qf Tryz.f382 && cF Tryz.prog KN c382 Tryz.f382) = true := by decide +kernel
theorem k383 : (Qf Tryz.f383 && cF Tryz.prog KN c383 Tryz.f383) = true := by decide +kernel
theorem k384 : (Qf Tryz.f384 && cF Tryz.prog KN c384 Tryz.f384) = true := by decide +kernel
theorem k385 : (Qf Tryz.f385 && cF Tryz.prog KN c385 Tryz.f385) = true := by decide +kernel
theorem k386 : (Qf Tryz.f386 && cF Tryz.prog KN c386 Tryz.f386) = true := by decide +kernel
theorem k395 : Qf Tryz.f395 = true := by decide +kernel
theorem k402 : (Qf Tryz.f402 && cF Tryz.prog KN c402 Tryz.f402) = true := by decide +kernel
theorem k403 : (Qf Tryz.f403 && cF Tryz.prog KN c403 Tryz.f403) = true := by decide +kernel
theorem k404 : (Qf Tryz.f404 && cF Tryz.prog KN c404 Tryz.f404) = true := by decide +kernel
theorem k409 : (Qf Tryz.f409 && cF Tryz.prog KN c409 Tryz.f409) = true := by decide +kernel
theorem k410 : (Qf Tryz.f410 && cF Tryz.prog KN c410 Tryz.f410) = true := by decide +kernel
theorem k411 : (Qf Tryz.f411 && cF Tryz.prog KN c411 Tryz.f411) = true := by decide +kernel
theorem k414 : (Qf Tryz.f414 && cF Tryz.prog KN c414 Tryz.f414) = true := by decide +kernel
theorem k415 : (Qf Tryz.f415 && cF Tryz.prog KN c415 Tryz.f415) = true := by decide +kernel
theorem k416 : (Qf Tryz.f416 && cF Tryz.prog KN c416 Tryz.f416) = true := by decide +kernel
theorem k437 : (Qf Tryz.f437 && cF Tryz.prog KN c437 Tryz.f437) = true := by decide +kernel
theorem k438 : (Qf Tryz.f438 && cF Tryz.prog KN c438 Tryz.f438) = true := by decide +kernel
theorem k439 : (Qf Tryz.f439 && cF Tryz.prog KN c439 Tryz.f439) = true := by decide +kernel
theorem k442 : (Qf Tryz.f442 && cF Tryz.prog KN c442 Tryz.f442) = true := by decide +kernel
theorem k443 : (Qf Tryz.f443 && cF Tryz.prog KN c443 Tryz.f443) = true := by decide +kernel
theorem khd : cF Tryz.prog KN hdF Tryz.f4 = true := by decide +kernel
end Go.Ev
open Go Go.Ev Go.Proofs
namespace Go.Ev
set_option maxRecDepth 100000
theorem Qt : Id Tryz.prog KN := cKn_ok (by decide +kernel)
theorem hM : Tryz.prog.follows .mixedOrders = true := by decide +kernel
theorem ctOk : CtOk Tryz.prog U9 := ctOk_of (show Qo U9 (FnOk Tryz.prog) from ⟨⟨⟨⟨⟨⟨⟨⟨⟨trivial, Qo.some (Qu (g := (.o (.o (.o (.o (.o (.o (.o (.o .h))))))))) Qt hM Tryz.func255 k255), trivial⟩, Qo.none, ⟨trivial, Qo.some (Qu (g := (.o (.o (.o (.o (.o (.o (.o (.i .h))))))))) Qt hM Tryz.func383 k383), trivial⟩⟩, Qo.none, ⟨⟨trivial, Qo.some (Qu (g := (.o (.o (.o (.o (.o (.o (.i (.o .h))))))))) Qt hM Tryz.func319 k319), trivial⟩, Qo.some (Qu (g := (.o (.o (.o (.o (.o (.o (.i .h)))))))) Qt hM Tryz.func191 k191), trivial⟩⟩, Qo.some (Qu (g := (.o (.o (.o (.o (.o .h)))))) Qt hM Tryz.func31 k31), ⟨⟨⟨trivial, Qo.some (Qu (g := (.o (.o (.o (.o (.o (.i (.o (.o .h))))))))) Qt hM Tryz.func287 k287), trivial⟩, Qo.some (Qu (g := (.o (.o (.o (.o (.o (.i (.o .h)))))))) Qt hM Tryz.func159 k159), ⟨trivial, Qo.some (Qu (g := (.o (.o (.o (.o (.o (.i (.o (.i .h))))))))) Qt hM Tryz.func415 k415), trivial⟩⟩, Qo.some (Qu (g := (.o (.o (.o (.o (.o (.i .h))))))) Qt hM Tryz.func95 k95), ⟨⟨trivial, Qo.some (Qu (g := (.o (.o (.o (.o (.o (.i (.i (.o .h))))))))) Qt hM Tryz.func351 k351), trivial⟩, Qo.none, trivial⟩⟩⟩, Qo.some (Qu (g := (.o (.o (.o (.o .h))))) Qt hM Tryz.func15 k15), ⟨⟨⟨trivial, Qo.some (Qu (g := (.o (.o (.o (.o (.i (.o (.o .h)))))))) Qt hM Tryz.func143 k143), trivial⟩, Qo.some (Qu (g := (.o (.o (.o (.o (.i (.o .h))))))) Qt hM Tryz.func79 k79), ⟨trivial, Qo.some (Qu (g := (.o (.o (.o (.o (.i (.o (.i .h)))))))) Qt hM Tryz.func207 k207), trivial⟩⟩, Qo.some (Qu (g := (.o (.o (.o (.o (.i .h)))))) Qt hM Tryz.func47 k47), ⟨⟨⟨trivial, Qo.some (Qu (g := (.o (.o (.o (.o (.i (.i (.o (.o .h))))))))) Qt hM Tryz.func303 k303), trivial⟩, Qo.some (Qu (g := (.o (.o (.o (.o (.i (.i (.o .h)))))))) Qt hM Tryz.func175 k175), trivial⟩, Qo.some (Qu (g := (.o (.o (.o (.o (.i (.i .h))))))) Qt hM Tryz.func111 k111), ⟨trivial, Qo.some (Qu (g := (.o (.o (.o (.o (.i (.i (.i .h)))))))) Qt hM Tryz.func239 k239), trivial⟩⟩⟩⟩, Qo.some (Qu (g := (.o (.o (.o .h)))) Qt hM Tryz.func7 k7), ⟨⟨⟨⟨⟨trivial, Qo.some (Qu (g := (.o (.o (.o (.i (.o (.o (.o (.o .h))))))))) Qt hM Tryz.func263 k263), trivial⟩, Qo.some (Qu (g := (.o (.o (.o (.i (.o (.o (.o .h)))))))) Qt hM Tryz.func135 k135), trivial⟩, Qo.some (Qu (g := (.o (.o (.o (.i (.o (.o .h))))))) Qt hM Tryz.func71 k71), ⟨trivial, Qo.some (Qu (g := (.o (.o (.o (.i (.o (.o (.i .h)))))))) Qt hM Tryz.func199 k199), trivial⟩⟩, Qo.some (Qu (g := (.o (.o (.o (.i (.o .h)))))) Qt hM Tryz.func39 k39), ⟨⟨⟨trivial, Qo.some (Qu (g := (.o (.o (.o (.i (.o (.i (.o (.o .h))))))))) Qt hM Tryz.func295 k295), trivial⟩, Qo.some (Qu (g := (.o (.o (.o (.i (.o (.i (.o .h)))))))) Qt hM Tryz.func167 k167), trivial⟩, Qo.some (Qu (g := (.o (.o (.o (.i (.o (.i .h))))))) Qt hM Tryz.func103 k103), ⟨⟨trivial, Qo.some (Qu (g := (.o (.o (.o (.i (.o (.i (.i (.o .h))))))))) Qt hM Tryz.func359 k359), trivial⟩, Qo.some (Qu (g := (.o (.o (.o (.i (.o (.i (.i .h)))))))) Qt hM Tryz.func231 k231), trivial⟩⟩⟩, Qo.some (Qu (g := (.o (.o (.o (.i .h))))) Qt hM Tryz.func23 k23), ⟨⟨⟨trivial, Qo.some (Qu (g := (.o (.o (.o (.i (.i (.o (.o .h)))))))) Qt hM Tryz.func151 k151), trivial⟩, Qo.some (fnPr (g := (.o (.o (.o (.i (.i (.o .h))))))) Tryz.func87 rfl k87), ⟨⟨trivial, Qo.some (Qu (g := (.o (.o (.o (.i (.i (.o (.i (.o .h))))))))) Qt hM Tryz.func343 k343), trivial⟩, Qo.some (Qu (g := (.o (.o (.o (.i (.i (.o (.i .h)))))))) Qt hM Tryz.func215 k215), trivial⟩⟩, Qo.some (Qu (g := (.o (.o (.o (.i (.i .h)))))) Qt hM Tryz.func55 k55), ⟨⟨⟨trivial, Qo.some (Qu (g := (.o (.o (.o (.i (.i (.i (.o (.o .h))))))))) Qt hM Tryz.func311 k311), trivial⟩, Qo.none, ⟨trivial, Qo.some (Qu (g := (.o (.o (.o (.i (.i (.i (.o (.i .h))))))))) Qt hM Tryz.func439 k439), trivial⟩⟩, Qo.none, ⟨⟨trivial, Qo.some (Qu (g := (.o (.o (.o (.i (.i (.i (.i (.o .h))))))))) Qt hM Tryz.func375 k375), trivial⟩, Qo.some (Qu (g := (.o (.o (.o (.i (.i (.i (.i .h)))))))) Qt hM Tryz.func247 k247), trivial⟩⟩⟩⟩⟩, Qo.some (Qu (g := (.o (.o .h))) Qt hM Tryz.func3 k3), ⟨⟨⟨⟨⟨⟨trivial, Qo.some (Qu (g := (.o (.o (.i (.o (.o (.o (.o (.o .h))))))))) Qt hM Tryz.func259 k259), trivial⟩, Qo.some (Qu (g := (.o (.o (.i (.o (.o (.o (.o .h)))))))) Qt hM Tryz.func131 k131), trivial⟩, Qo.none, trivial⟩, Qo.some (Qu (g := (.o (.o (.i (.o (.o .h)))))) Qt hM Tryz.func35 k35), ⟨⟨⟨trivial, Qo.some (Qu (g := (.o (.o (.i (.o (.o (.i (.o (.o .h))))))))) Qt hM Tryz.func291 k291), trivial⟩, Qo.some (Qu (g := (.o (.o (.i (.o (.o (.i (.o .h)))))))) Qt hM Tryz.func163 k163), trivial⟩, Qo.some (Qu (g := (.o (.o (.i (.o (.o (.i .h))))))) Qt hM Tryz.func99 k99), ⟨⟨trivial, Qo.some (Qu (g := (.o (.o (.i (.o (.o (.i (.i (.o .h))))))))) Qt hM Tryz.func355 k355), trivial⟩, Qo.some (Qu (g := (.o (.o (.i (.o (.o (.i (.i .h)))))))) Qt hM Tryz.func227 k227), trivial⟩⟩⟩, Qo.some (Qu (g := (.o (.o (.i (.o .h))))) Qt hM Tryz.func19 k19), ⟨⟨⟨⟨trivial, Qo.some (Qu (g := (.o (.o (.i (.o (.i (.o (.o (.o .h))))))))) Qt hM Tryz.func275 k275), trivial⟩, Qo.none, ⟨trivial, Qo.some (Qu (g := (.o (.o (.i (.o (.i (.o (.o (.i .h))))))))) Qt hM Tryz.func403 k403), trivial⟩⟩, Qo.some (Qu (g := (.o (.o (.i (.o (.i (.o .h))))))) Qt hM Tryz.func83 k83), ⟨⟨trivial, Qo.some (Qu (g := (.o (.o (.i (.o (.i (.o (.i (.o .h))))))))) Qt hM Tryz.func339 k339), trivial⟩, Qo.some (Qu (g := (.o (.o (.i (.o (.i (.o (.i .h)))))))) Qt hM Tryz.func211 k211), trivial⟩⟩, Qo.some (Qu (g := (.o (.o (.i (.o (.i .h)))))) Qt hM Tryz.func51 k51), ⟨⟨trivial, Qo.some (Qu (g := (.o (.o (.i (.o (.i (.i (.o .h)))))))) Qt hM Tryz.func179 k179), trivial⟩, Qo.some (Qu (g := (.o (.o (.i (.o (.i (.i .h))))))) Qt hM Tryz.func115 k115), ⟨trivial, Qo.some (fnPr (g := (.o (.o (.i (.o (.i (.i (.i .h)))))))) Tryz.func243 rfl k243), trivial⟩⟩⟩⟩, Qo.some (Qu (g := (.o (.o (.i .h)))) Qt hM Tryz.func11 k11), ⟨⟨⟨⟨trivial, Qo.none, ⟨trivial, Qo.some (fnPr (g := (.o (.o (.i (.i (.o (.o (.o (.i .h))))))))) Tryz.func395 rfl k395), trivial⟩⟩, Qo.some (Qu (g := (.o (.o (.i (.i (.o (.o .h))))))) Qt hM Tryz.func75 k75), ⟨⟨trivial, Qo.some (Qu (g := (.o (.o (.i (.i (.o (.o (.i (.o .h))))))))) Qt hM Tryz.func331 k331), trivial⟩, Qo.some (Qu (g := (.o (.o (.i (.i (.o (.o (.i .h)))))))) Qt hM Tryz.func203 k203), trivial⟩⟩, Qo.some (Qu (g := (.o (.o (.i (.i (.o .h)))))) Qt hM Tryz.func43 k43), ⟨⟨⟨trivial, Qo.some (Qu (g := (.o (.o (.i (.i (.o (.i (.o (.o .h))))))))) Qt hM Tryz.func299 k299), trivial⟩, Qo.some (Qu (g := (.o (.o (.i (.i (.o (.i (.o .h)))))))) Qt hM Tryz.func171 k171), trivial⟩, Qo.some (Qu (g := (.o (.o (.i (.i (.o (.i .h))))))) Qt hM Tryz.func107 k107), ⟨trivial, Qo.some (Qu (g := (.o (.o (.i (.i (.o (.i (.i .h)))))))) Qt hM Tryz.func235 k235), trivial⟩⟩⟩, Qo.some (Qu (g := (.o (.o (.i (.i .h))))) Qt hM Tryz.func27 k27), ⟨⟨⟨trivial, Qo.some (Qu (g := (.o (.o (.i (.i (.i (.o (.o .h)))))))) Qt hM Tryz.func155 k155), ⟨trivial, Qo.some (Qu (g := (.o (.o (.i (.i (.i (.o (.o (.i .h))))))))) Qt hM Tryz.func411 k411), trivial⟩⟩, Qo.some (Qu (g := (.o (.o (.i (.i (.i (.o .h))))))) Qt hM Tryz.func91 k91), ⟨⟨trivial, Qo.some (Qu (g := (.o (.o (.i (.i (.i (.o (.i (.o .h))))))))) Qt hM Tryz.func347 k347), trivial⟩, Qo.some (Qu (g := (.o (.o (.i (.i (.i (.o (.i .h)))))))) Qt hM Tryz.func219 k219), trivial⟩⟩, Qo.some (Qu (g := (.o (.o (.i (.i (.i .h)))))) Qt hM Tryz.func59 k59), ⟨⟨trivial, Qo.some (Qu (g := (.o (.o (.i (.i (.i (.i (.o .h)))))))) Qt hM Tryz.func187 k187), ⟨trivial, Qo.some (Qu (g := (.o (.o (.i (.i (.i (.i (.o (.i .h))))))))) Qt hM Tryz.func443 k443), trivial⟩⟩, Qo.none, trivial⟩⟩⟩⟩⟩, Qo.none, ⟨⟨⟨⟨⟨⟨⟨trivial, Qo.some (Qu (g := (.o (.i (.o (.o (.o (.o (.o (.o .h))))))))) Qt hM Tryz.func257 k257), trivial⟩, Qo.some (Qu (g := (.o (.i (.o (.o (.o (.o (.o .h)))))))) Qt hM Tryz.func129 k129), ⟨trivial, Qo.some (Qu (g := (.o (.i (.o (.o (.o (.o (.o (.i .h))))))))) Qt hM Tryz.func385 k385), trivial⟩⟩, Qo.some (Qu (g := (.o (.i (.o (.o (.o (.o .h))))))) Qt hM Tryz.func65 k65), ⟨⟨trivial, Qo.some (Qu (g := (.o (.i (.o (.o (.o (.o (.i (.o .h))))))))) Qt hM Tryz.func321 k321), trivial⟩, Qo.some (Qu (g := (.o (.i (.o (.o (.o (.o (.i .h)))))))) Qt hM Tryz.func193 k193), trivial⟩⟩, Qo.some (Qu (g := (.o (.i (.o (.o (.o .h)))))) Qt hM Tryz.func33 k33), ⟨⟨⟨trivial, Qo.some (Qu (g := (.o (.i (.o (.o (.o (.i (.o (.o .h))))))))) Qt hM Tryz.func289 k289), trivial⟩, Qo.some (Qu (g := (.o (.i (.o (.o (.o (.i (.o .h)))))))) Qt hM Tryz.func161 k161), trivial⟩, Qo.some (Qu (g := (.o (.i (.o (.o (.o (.i .h))))))) Qt hM Tryz.func97 k97), ⟨⟨trivial, Qo.some (Qu (g := (.o (.i (.o (.o (.o (.i (.i (.o .h))))))))) Qt hM Tryz.func353 k353), trivial⟩, Qo.none, trivial⟩⟩⟩, Qo.some (Qu (g := (.o (.i (.o (.o .h))))) Qt hM Tryz.func17 k17), ⟨⟨⟨trivial, Qo.some (Qu (g := (.o (.i (.o (.o (.i (.o (.o .h)))))))) Qt hM Tryz.func145 k145), trivial⟩, Qo.some (Qu (g := (.o (.i (.o (.o (.i (.o .h))))))) Qt hM Tryz.func81 k81), ⟨trivial, Qo.some (Qu (g := (.o (.i (.o (.o (.i (.o (.i .h)))))))) Qt hM Tryz.func209 k209), trivial⟩⟩, Qo.some (Qu (g := (.o (.i (.o (.o (.i .h)))))) Qt hM Tryz.func49 k49), ⟨⟨trivial, Qo.some (Qu (g := (.o (.i (.o (.o (.i (.i (.o .h)))))))) Qt hM Tryz.func177 k177), trivial⟩, Qo.some (Qu (g := (.o (.i (.o (.o (.i (.i .h))))))) Qt hM Tryz.func113 k113), ⟨trivial, Qo.some (Qu (g := (.o (.i (.o (.o (.i (.i (.i .h)))))))) Qt hM Tryz.func241 k241), trivial⟩⟩⟩⟩, Qo.some (Qu (g := (.o (.i (.o .h)))) Qt hM Tryz.func9 k9), ⟨⟨⟨⟨⟨trivial, Qo.some (Qu (g := (.o (.i (.o (.i (.o (.o (.o (.o .h))))))))) Qt hM Tryz.func265 k265), trivial⟩, Qo.some (Qu (g := (.o (.i (.o (.i (.o (.o (.o .h)))))))) Qt hM Tryz.func137 k137), trivial⟩, Qo.some (Qu (g := (.o (.i (.o (.i (.o (.o .h))))))) Qt hM Tryz.func73 k73), ⟨⟨trivial, Qo.some (Qu (g := (.o (.i (.o (.i (.o (.o (.i (.o .h))))))))) Qt hM Tryz.func329 k329), trivial⟩, Qo.some (Qu (g := (.o (.i (.o (.i (.o (.o (.i .h)))))))) Qt hM Tryz.func201 k201), trivial⟩⟩, Qo.some (Qu (g := (.o (.i (.o (.i (.o .h)))))) Qt hM Tryz.func41 k41), ⟨⟨trivial, Qo.some (Qu (g := (.o (.i (.o (.i (.o (.i (.o .h)))))))) Qt hM Tryz.func169 k169), trivial⟩, Qo.some (Qu (g := (.o (.i (.o (.i (.o (.i .h))))))) Qt hM Tryz.func105 k105), ⟨trivial, Qo.some (Qu (g := (.o (.i (.o (.i (.o (.i (.i .h)))))))) Qt hM Tryz.func233 k233), trivial⟩⟩⟩, Qo.some (Qu (g := (.o (.i (.o (.i .h))))) Qt hM Tryz.func25 k25), ⟨⟨⟨trivial, Qo.some (Qu (g := (.o (.i (.o (.i (.i (.o (.o .h)))))))) Qt hM Tryz.func153 k153), ⟨trivial, Qo.some (Qu (g := (.o (.i (.o (.i (.i (.o (.o (.i .h))))))))) Qt hM Tryz.func409 k409), trivial⟩⟩, Qo.some (Qu (g := (.o (.i (.o (.i (.i (.o .h))))))) Qt hM Tryz.func89 k89), ⟨⟨trivial, Qo.some (Qu (g := (.o (.i (.o (.i (.i (.o (.i (.o .h))))))))) Qt hM Tryz.func345 k345), trivial⟩, Qo.some (Qu (g := (.o (.i (.o (.i (.i (.o (.i .h)))))))) Qt hM Tryz.func217 k217), trivial⟩⟩, Qo.some (Qu (g := (.o (.i (.o (.i (.i .h)))))) Qt hM Tryz.func57 k57), ⟨⟨⟨trivial, Qo.some (Qu (g := (.o (.i (.o (.i (.i (.i (.o (.o .h))))))))) Qt hM Tryz.func313 k313), trivial⟩, Qo.some (Qu (g := (.o (.i (.o (.i (.i (.i (.o .h)))))))) Qt hM Tryz.func185 k185), trivial⟩, Qo.some (Qu (g := (.o (.i (.o (.i (.i (.i .h))))))) Qt hM Tryz.func121 k121), ⟨⟨trivial, Qo.some (Qu (g := (.o (.i (.o (.i (.i (.i (.i (.o .h))))))))) Qt hM Tryz.func377 k377), trivial⟩, Qo.some (Qu (g := (.o (.i (.o (.i (.i (.i (.i .h)))))))) Qt hM Tryz.func249 k249), trivial⟩⟩⟩⟩⟩, Qo.some (Qu (g := (.o (.i .h))) Qt hM Tryz.func5 k5), ⟨⟨⟨⟨⟨⟨trivial, Qo.some (Qu (g := (.o (.i (.i (.o (.o (.o (.o (.o .h))))))))) Qt hM Tryz.func261 k261), trivial⟩, Qo.none, trivial⟩, Qo.some (Qu (g := (.o (.i (.i (.o (.o (.o .h))))))) Qt hM Tryz.func69 k69), ⟨trivial, Qo.some (Qu (g := (.o (.i (.i (.o (.o (.o (.i .h)))))))) Qt hM Tryz.func197 k197), trivial⟩⟩, Qo.some (Qu (g := (.o (.i (.i (.o (.o .h)))))) Qt hM Tryz.func37 k37), ⟨⟨⟨trivial, Qo.some (Qu (g := (.o (.i (.i (.o (.o (.i (.o (.o .h))))))))) Qt hM Tryz.func293 k293), trivial⟩, Qo.none, trivial⟩, Qo.some (Qu (g := (.o (.i (.i (.o (.o (.i .h))))))) Qt hM Tryz.func101 k101), trivial⟩⟩, Qo.some (Qu (g := (.o (.i (.i (.o .h))))) Qt hM Tryz.func21 k21), ⟨⟨⟨⟨trivial, Qo.some (Qu (g := (.o (.i (.i (.o (.i (.o (.o (.o .h))))))))) Qt hM Tryz.func277 k277), trivial⟩, Qo.some (Qu (g := (.o (.i (.i (.o (.i (.o (.o .h)))))))) Qt hM Tryz.func149 k149), trivial⟩, Qo.some (Qu (g := (.o (.i (.i (.o (.i (.o .h))))))) Qt hM Tryz.func85 k85), ⟨⟨trivial, Qo.some (Qu (g := (.o (.i (.i (.o (.i (.o (.i (.o .h))))))))) Qt hM Tryz.func341 k341), trivial⟩, Qo.some (Qu (g := (.o (.i (.i (.o (.i (.o (.i .h)))))))) Qt hM Tryz.func213 k213), trivial⟩⟩, Qo.some (Qu (g := (.o (.i (.i (.o (.i .h)))))) Qt hM Tryz.func53 k53), ⟨⟨⟨trivial, Qo.some (Qu (g := (.o (.i (.i (.o (.i (.i (.o (.o .h))))))))) Qt hM Tryz.func309 k309), trivial⟩, Qo.some (Qu (g := (.o (.i (.i (.o (.i (.i (.o .h)))))))) Qt hM Tryz.func181 k181), ⟨trivial, Qo.some (Qu (g := (.o (.i (.i (.o (.i (.i (.o (.i .h))))))))) Qt hM Tryz.func437 k437), trivial⟩⟩, Qo.some (Qu (g := (.o (.i (.i (.o (.i (.i .h))))))) Qt hM Tryz.func117 k117), ⟨⟨trivial, Qo.some (Qu (g := (.o (.i (.i (.o (.i (.i (.i (.o .h))))))))) Qt hM Tryz.func373 k373), trivial⟩, Qo.none, trivial⟩⟩⟩⟩, Qo.some (Qu (g := (.o (.i (.i .h)))) Qt hM Tryz.func13 k13), ⟨⟨⟨⟨trivial, Qo.some (Qu (g := (.o (.i (.i (.i (.o (.o (.o .h)))))))) Qt hM Tryz.func141 k141), trivial⟩, Qo.some (Qu (g := (.o (.i (.i (.i (.o (.o .h))))))) Qt hM Tryz.func77 k77), ⟨trivial, Qo.some (Qu (g := (.o (.i (.i (.i (.o (.o (.i .h)))))))) Qt hM Tryz.func205 k205), trivial⟩⟩, Qo.some (Qu (g := (.o (.i (.i (.i (.o .h)))))) Qt hM Tryz.func45 k45), ⟨⟨⟨trivial, Qo.some (Qu (g := (.o (.i (.i (.i (.o (.i (.o (.o .h))))))))) Qt hM Tryz.func301 k301), trivial⟩, Qo.some (Qu (g := (.o (.i (.i (.i (.o (.i (.o .h)))))))) Qt hM Tryz.func173 k173), trivial⟩, Qo.none, ⟨trivial, Qo.some (Qu (g := (.o (.i (.i (.i (.o (.i (.i .h)))))))) Qt hM Tryz.func237 k237), trivial⟩⟩⟩, Qo.some (Qu (g := (.o (.i (.i (.i .h))))) Qt hM Tryz.func29 k29), ⟨⟨⟨⟨trivial, Qo.some (Qu (g := (.o (.i (.i (.i (.i (.o (.o (.o .h))))))))) Qt hM Tryz.func285 k285), trivial⟩, Qo.some (Qu (g := (.o (.i (.i (.i (.i (.o (.o .h)))))))) Qt hM Tryz.func157 k157), trivial⟩, Qo.some (Qu (g := (.o (.i (.i (.i (.i (.o .h))))))) Qt hM Tryz.func93 k93), ⟨⟨trivial, Qo.some (Qu (g := (.o (.i (.i (.i (.i (.o (.i (.o .h))))))))) Qt hM Tryz.func349 k349), trivial⟩, Qo.some (Qu (g := (.o (.i (.i (.i (.i (.o (.i .h)))))))) Qt hM Tryz.func221 k221), trivial⟩⟩, Qo.some (Qu (g := (.o (.i (.i (.i (.i .h)))))) Qt hM Tryz.func61 k61), ⟨⟨trivial, Qo.some (Qu (g := (.o (.i (.i (.i (.i (.i (.o .h)))))))) Qt hM Tryz.func189 k189), trivial⟩, Qo.some (Qu (g := (.o (.i (.i (.i (.i (.i .h))))))) Qt hM Tryz.func125 k125), ⟨⟨trivial, Qo.some (Qu (g := (.o (.i (.i (.i (.i (.i (.i (.o .h))))))))) Qt hM Tryz.func381 k381), trivial⟩, Qo.some (Qu (g := (.o (.i (.i (.i (.i (.i (.i .h)))))))) Qt hM Tryz.func253 k253), trivial⟩⟩⟩⟩⟩⟩⟩, Qo.none, ⟨⟨⟨⟨⟨⟨⟨⟨trivial, Qo.some (Qu (g := (.i (.o (.o (.o (.o (.o (.o (.o .h))))))))) Qt hM Tryz.func256 k256), trivial⟩, Qo.some (Qu (g := (.i (.o (.o (.o (.o (.o (.o .h)))))))) Qt hM Tryz.func128 k128), ⟨trivial, Qo.some (Qu (g := (.i (.o (.o (.o (.o (.o (.o (.i .h))))))))) Qt hM Tryz.func384 k384), trivial⟩⟩, Qo.some (Qu (g := (.i (.o (.o (.o (.o (.o .h))))))) Qt hM Tryz.func64 k64), ⟨⟨trivial, Qo.some (Qu (g := (.i (.o (.o (.o (.o (.o (.i (.o .h))))))))) Qt hM Tryz.func320 k320), trivial⟩, Qo.some (Qu (g := (.i (.o (.o (.o (.o (.o (.i .h)))))))) Qt hM Tryz.func192 k192), trivial⟩⟩, Qo.some (Qu (g := (.i (.o (.o (.o (.o .h)))))) Qt hM Tryz.func32 k32), ⟨⟨⟨trivial, Qo.some (Qu (g := (.i (.o (.o (.o (.o (.i (.o (.o .h))))))))) Qt hM Tryz.func288 k288), trivial⟩, Qo.some (Qu (g := (.i (.o (.o (.o (.o (.i (.o .h)))))))) Qt hM Tryz.func160 k160), ⟨trivial, Qo.some (Qu (g := (.i (.o (.o (.o (.o (.i (.o (.i .h))))))))) Qt hM Tryz.func416 k416), trivial⟩⟩, Qo.some (Qu (g := (.i (.o (.o (.o (.o (.i .h))))))) Qt hM Tryz.func96 k96), ⟨⟨trivial, Qo.some (Qu (g := (.i (.o (.o (.o (.o (.i (.i (.o .h))))))))) Qt hM Tryz.func352 k352), trivial⟩, Qo.none, trivial⟩⟩⟩, Qo.some (Qu (g := (.i (.o (.o (.o .h))))) Qt hM Tryz.func16 k16), ⟨⟨⟨trivial, Qo.some (Qu (g := (.i (.o (.o (.o (.i (.o (.o .h)))))))) Qt hM Tryz.func144 k144), trivial⟩, Qo.some (Qu (g := (.i (.o (.o (.o (.i (.o .h))))))) Qt hM Tryz.func80 k80), ⟨trivial, Qo.some (Qu (g := (.i (.o (.o (.o (.i (.o (.i .h)))))))) Qt hM Tryz.func208 k208), trivial⟩⟩, Qo.some (Qu (g := (.i (.o (.o (.o (.i .h)))))) Qt hM Tryz.func48 k48), ⟨⟨⟨trivial, Qo.some (Qu (g := (.i (.o (.o (.o (.i (.i (.o (.o .h))))))))) Qt hM Tryz.func304 k304), trivial⟩, Qo.some (Qu (g := (.i (.o (.o (.o (.i (.i (.o .h)))))))) Qt hM Tryz.func176 k176), trivial⟩, Qo.some (Qu (g := (.i (.o (.o (.o (.i (.i .h))))))) Qt hM Tryz.func112 k112), ⟨trivial, Qo.some (Qu (g := (.i (.o (.o (.o (.i (.i (.i .h)))))))) Qt hM Tryz.func240 k240), trivial⟩⟩⟩⟩, Qo.some (Qu (g := (.i (.o (.o .h)))) Qt hM Tryz.func8 k8), ⟨⟨⟨⟨⟨trivial, Qo.some (Qu (g := (.i (.o (.o (.i (.o (.o (.o (.o .h))))))))) Qt hM Tryz.func264 k264), trivial⟩, Qo.some (Qu (g := (.i (.o (.o (.i (.o (.o (.o .h)))))))) Qt hM Tryz.func136 k136), trivial⟩, Qo.some (Qu (g := (.i (.o (.o (.i (.o (.o .h))))))) Qt hM Tryz.func72 k72), ⟨trivial, Qo.some (Qu (g := (.i (.o (.o (.i (.o (.o (.i .h)))))))) Qt hM Tryz.func200 k200), trivial⟩⟩, Qo.some (Qu (g := (.i (.o (.o (.i (.o .h)))))) Qt hM Tryz.func40 k40), ⟨⟨trivial, Qo.some (Qu (g := (.i (.o (.o (.i (.o (.i (.o .h)))))))) Qt hM Tryz.func168 k168), trivial⟩, Qo.some (Qu (g := (.i (.o (.o (.i (.o (.i .h))))))) Qt hM Tryz.func104 k104), ⟨trivial, Qo.some (Qu (g := (.i (.o (.o (.i (.o (.i (.i .h)))))))) Qt hM Tryz.func232 k232), trivial⟩⟩⟩, Qo.some (Qu (g := (.i (.o (.o (.i .h))))) Qt hM Tryz.func24 k24), ⟨⟨⟨trivial, Qo.some (Qu (g := (.i (.o (.o (.i (.i (.o (.o .h)))))))) Qt hM Tryz.func152 k152), trivial⟩, Qo.some (Qu (g := (.i (.o (.o (.i (.i (.o .h))))))) Qt hM Tryz.func88 k88), ⟨⟨trivial, Qo.some (Qu (g := (.i (.o (.o (.i (.i (.o (.i (.o .h))))))))) Qt hM Tryz.func344 k344), trivial⟩, Qo.some (Qu (g := (.i (.o (.o (.i (.i (.o (.i .h)))))))) Qt hM Tryz.func216 k216), trivial⟩⟩, Qo.some (Qu (g := (.i (.o (.o (.i (.i .h)))))) Qt hM Tryz.func56 k56), ⟨⟨⟨trivial, Qo.some (Qu (g := (.i (.o (.o (.i (.i (.i (.o (.o .h))))))))) Qt hM Tryz.func312 k312), trivial⟩, Qo.none, trivial⟩, Qo.some (Qu (g := (.i (.o (.o (.i (.i (.i .h))))))) Qt hM Tryz.func120 k120), ⟨⟨trivial, Qo.some (Qu (g := (.i (.o (.o (.i (.i (.i (.i (.o .h))))))))) Qt hM Tryz.func376 k376), trivial⟩, Qo.some (Qu (g := (.i (.o (.o (.i (.i (.i (.i .h)))))))) Qt hM Tryz.func248 k248), trivial⟩⟩⟩⟩⟩, Qo.some (fnPr (g := (.i (.o .h))) Tryz.func4 rfl k4), ⟨⟨⟨⟨⟨⟨trivial, Qo.some (Qu (g := (.i (.o (.i (.o (.o (.o (.o (.o .h))))))))) Qt hM Tryz.func260 k260), trivial⟩, Qo.some (Qu (g := (.i (.o (.i (.o (.o (.o (.o .h)))))))) Qt hM Tryz.func132 k132), trivial⟩, Qo.some (Qu (g := (.i (.o (.i (.o (.o (.o .h))))))) Qt hM Tryz.func68 k68), ⟨trivial, Qo.some (Qu (g := (.i (.o (.i (.o (.o (.o (.i .h)))))))) Qt hM Tryz.func196 k196), trivial⟩⟩, Qo.some (Qu (g := (.i (.o (.i (.o (.o .h)))))) Qt hM Tryz.func36 k36), ⟨⟨⟨trivial, Qo.some (Qu (g := (.i (.o (.i (.o (.o (.i (.o (.o .h))))))))) Qt hM Tryz.func292 k292), trivial⟩, Qo.some (Qu (g := (.i (.o (.i (.o (.o (.i (.o .h)))))))) Qt hM Tryz.func164 k164), trivial⟩, Qo.some (Qu (g := (.i (.o (.i (.o (.o (.i .h))))))) Qt hM Tryz.func100 k100), ⟨⟨trivial, Qo.some (Qu (g := (.i (.o (.i (.o (.o (.i (.i (.o .h))))))))) Qt hM Tryz.func356 k356), trivial⟩, Qo.none, trivial⟩⟩⟩, Qo.some (Qu (g := (.i (.o (.i (.o .h))))) Qt hM Tryz.func20 k20), ⟨⟨⟨⟨trivial, Qo.some (Qu (g := (.i (.o (.i (.o (.i (.o (.o (.o .h))))))))) Qt hM Tryz.func276 k276), trivial⟩, Qo.none, ⟨trivial, Qo.some (Qu (g := (.i (.o (.i (.o (.i (.o (.o (.i .h))))))))) Qt hM Tryz.func404 k404), trivial⟩⟩, Qo.some (Qu (g := (.i (.o (.i (.o (.i (.o .h))))))) Qt hM Tryz.func84 k84), ⟨⟨trivial, Qo.some (Qu (g := (.i (.o (.i (.o (.i (.o (.i (.o .h))))))))) Qt hM Tryz.func340 k340), trivial⟩, Qo.none, trivial⟩⟩, Qo.some (Qu (g := (.i (.o (.i (.o (.i .h)))))) Qt hM Tryz.func52 k52), ⟨⟨⟨trivial, Qo.some (Qu (g := (.i (.o (.i (.o (.i (.i (.o (.o .h))))))))) Qt hM Tryz.func308 k308), trivial⟩, Qo.none, trivial⟩, Qo.some (Qu (g := (.i (.o (.i (.o (.i (.i .h))))))) Qt hM Tryz.func116 k116), ⟨trivial, Qo.some (Qu (g := (.i (.o (.i (.o (.i (.i (.i .h)))))))) Qt hM Tryz.func244 k244), trivial⟩⟩⟩⟩, Qo.some (Qu (g := (.i (.o (.i .h)))) Qt hM Tryz.func12 k12), ⟨⟨⟨⟨trivial, Qo.some (Qu (g := (.i (.o (.i (.i (.o (.o (.o .h)))))))) Qt hM Tryz.func140 k140), trivial⟩, Qo.some (Qu (g := (.i (.o (.i (.i (.o (.o .h))))))) Qt hM Tryz.func76 k76), ⟨trivial, Qo.some (Qu (g := (.i (.o (.i (.i (.o (.o (.i .h)))))))) Qt hM Tryz.func204 k204), trivial⟩⟩, Qo.some (Qu (g := (.i (.o (.i (.i (.o .h)))))) Qt hM Tryz.func44 k44), ⟨⟨⟨trivial, Qo.some (Qu (g := (.i (.o (.i (.i (.o (.i (.o (.o .h))))))))) Qt hM Tryz.func300 k300), trivial⟩, Qo.some (Qu (g := (.i (.o (.i (.i (.o (.i (.o .h)))))))) Qt hM Tryz.func172 k172), trivial⟩, Qo.some (Qu (g := (.i (.o (.i (.i (.o (.i .h))))))) Qt hM Tryz.func108 k108), ⟨trivial, Qo.some (Qu (g := (.i (.o (.i (.i (.o (.i (.i .h)))))))) Qt hM Tryz.func236 k236), trivial⟩⟩⟩, Qo.some (Qu (g := (.i (.o (.i (.i .h))))) Qt hM Tryz.func28 k28), ⟨⟨⟨trivial, Qo.some (Qu (g := (.i (.o (.i (.i (.i (.o (.o .h)))))))) Qt hM Tryz.func156 k156), trivial⟩, Qo.some (Qu (g := (.i (.o (.i (.i (.i (.o .h))))))) Qt hM Tryz.func92 k92), trivial⟩, Qo.some (Qu (g := (.i (.o (.i (.i (.i .h)))))) Qt hM Tryz.func60 k60), trivial⟩⟩⟩⟩, Qo.none, ⟨⟨⟨⟨⟨⟨⟨trivial, Qo.some (Qu (g := (.i (.i (.o (.o (.o (.o (.o (.o .h))))))))) Qt hM Tryz.func258 k258), trivial⟩, Qo.some (Qu (g := (.i (.i (.o (.o (.o (.o (.o .h)))))))) Qt hM Tryz.func130 k130), ⟨trivial, Qo.some (Qu (g := (.i (.i (.o (.o (.o (.o (.o (.i .h))))))))) Qt hM Tryz.func386 k386), trivial⟩⟩, Qo.none, ⟨trivial, Qo.some (Qu (g := (.i (.i (.o (.o (.o (.o (.i .h)))))))) Qt hM Tryz.func194 k194), trivial⟩⟩, Qo.some (Qu (g := (.i (.i (.o (.o (.o .h)))))) Qt hM Tryz.func34 k34), ⟨⟨⟨trivial, Qo.some (Qu (g := (.i (.i (.o (.o (.o (.i (.o (.o .h))))))))) Qt hM Tryz.func290 k290), trivial⟩, Qo.some (Qu (g := (.i (.i (.o (.o (.o (.i (.o .h)))))))) Qt hM Tryz.func162 k162), trivial⟩, Qo.some (Qu (g := (.i (.i (.o (.o (.o (.i .h))))))) Qt hM Tryz.func98 k98), ⟨⟨trivial, Qo.some (Qu (g := (.i (.i (.o (.o (.o (.i (.i (.o .h))))))))) Qt hM Tryz.func354 k354), trivial⟩, Qo.none, trivial⟩⟩⟩, Qo.some (Qu (g := (.i (.i (.o (.o .h))))) Qt hM Tryz.func18 k18), ⟨⟨⟨⟨trivial, Qo.some (Qu (g := (.i (.i (.o (.o (.i (.o (.o (.o .h))))))))) Qt hM Tryz.func274 k274), trivial⟩, Qo.some (Qu (g := (.i (.i (.o (.o (.i (.o (.o .h)))))))) Qt hM Tryz.func146 k146), ⟨trivial, Qo.some (Qu (g := (.i (.i (.o (.o (.i (.o (.o (.i .h))))))))) Qt hM Tryz.func402 k402), trivial⟩⟩, Qo.some (Qu (g := (.i (.i (.o (.o (.i (.o .h))))))) Qt hM Tryz.func82 k82), ⟨⟨trivial, Qo.some (Qu (g := (.i (.i (.o (.o (.i (.o (.i (.o .h))))))))) Qt hM Tryz.func338 k338), trivial⟩, Qo.some (Qu (g := (.i (.i (.o (.o (.i (.o (.i .h)))))))) Qt hM Tryz.func210 k210), trivial⟩⟩, Qo.some (Qu (g := (.i (.i (.o (.o (.i .h)))))) Qt hM Tryz.func50 k50), ⟨⟨trivial, Qo.some (Qu (g := (.i (.i (.o (.o (.i (.i (.o .h)))))))) Qt hM Tryz.func178 k178), trivial⟩, Qo.some (Qu (g := (.i (.i (.o (.o (.i (.i .h))))))) Qt hM Tryz.func114 k114), ⟨trivial, Qo.some (Qu (g := (.i (.i (.o (.o (.i (.i (.i .h)))))))) Qt hM Tryz.func242 k242), trivial⟩⟩⟩⟩, Qo.some (Qu (g := (.i (.i (.o .h)))) Qt hM Tryz.func10 k10), ⟨⟨⟨⟨⟨trivial, Qo.some (Qu (g := (.i (.i (.o (.i (.o (.o (.o (.o .h))))))))) Qt hM Tryz.func266 k266), trivial⟩, Qo.some (Qu (g := (.i (.i (.o (.i (.o (.o (.o .h)))))))) Qt hM Tryz.func138 k138), trivial⟩, Qo.some (Qu (g := (.i (.i (.o (.i (.o (.o .h))))))) Qt hM Tryz.func74 k74), ⟨⟨trivial, Qo.some (Qu (g := (.i (.i (.o (.i (.o (.o (.i (.o .h))))))))) Qt hM Tryz.func330 k330), trivial⟩, Qo.some (Qu (g := (.i (.i (.o (.i (.o (.o (.i .h)))))))) Qt hM Tryz.func202 k202), trivial⟩⟩, Qo.some (Qu (g := (.i (.i (.o (.i (.o .h)))))) Qt hM Tryz.func42 k42), ⟨⟨trivial, Qo.some (Qu (g := (.i (.i (.o (.i (.o (.i (.o .h)))))))) Qt hM Tryz.func170 k170), trivial⟩, Qo.some (Qu (g := (.i (.i (.o (.i (.o (.i .h))))))) Qt hM Tryz.func106 k106), ⟨trivial, Qo.some (Qu (g := (.i (.i (.o (.i (.o (.i (.i .h)))))))) Qt hM Tryz.func234 k234), trivial⟩⟩⟩, Qo.some (Qu (g := (.i (.i (.o (.i .h))))) Qt hM Tryz.func26 k26), ⟨⟨⟨trivial, Qo.some (Qu (g := (.i (.i (.o (.i (.i (.o (.o .h)))))))) Qt hM Tryz.func154 k154), ⟨trivial, Qo.some (Qu (g := (.i (.i (.o (.i (.i (.o (.o (.i .h))))))))) Qt hM Tryz.func410 k410), trivial⟩⟩, Qo.some (Qu (g := (.i (.i (.o (.i (.i (.o .h))))))) Qt hM Tryz.func90 k90), ⟨trivial, Qo.some (Qu (g := (.i (.i (.o (.i (.i (.o (.i .h)))))))) Qt hM Tryz.func218 k218), trivial⟩⟩, Qo.some (Qu (g := (.i (.i (.o (.i (.i .h)))))) Qt hM Tryz.func58 k58), ⟨⟨trivial, Qo.some (Qu (g := (.i (.i (.o (.i (.i (.i (.o .h)))))))) Qt hM Tryz.func186 k186), ⟨trivial, Qo.some (Qu (g := (.i (.i (.o (.i (.i (.i (.o (.i .h))))))))) Qt hM Tryz.func442 k442), trivial⟩⟩, Qo.none, trivial⟩⟩⟩⟩, Qo.some (Qu (g := (.i (.i .h))) Qt hM Tryz.func6 k6), ⟨⟨⟨⟨⟨⟨trivial, Qo.some (Qu (g := (.i (.i (.i (.o (.o (.o (.o (.o .h))))))))) Qt hM Tryz.func262 k262), trivial⟩, Qo.some (Qu (g := (.i (.i (.i (.o (.o (.o (.o .h)))))))) Qt hM Tryz.func134 k134), trivial⟩, Qo.some (Qu (g := (.i (.i (.i (.o (.o (.o .h))))))) Qt hM Tryz.func70 k70), ⟨trivial, Qo.some (Qu (g := (.i (.i (.i (.o (.o (.o (.i .h)))))))) Qt hM Tryz.func198 k198), trivial⟩⟩, Qo.some (Qu (g := (.i (.i (.i (.o (.o .h)))))) Qt hM Tryz.func38 k38), ⟨⟨⟨trivial, Qo.some (Qu (g := (.i (.i (.i (.o (.o (.i (.o (.o .h))))))))) Qt hM Tryz.func294 k294), trivial⟩, Qo.some (Qu (g := (.i (.i (.i (.o (.o (.i (.o .h)))))))) Qt hM Tryz.func166 k166), trivial⟩, Qo.some (Qu (g := (.i (.i (.i (.o (.o (.i .h))))))) Qt hM Tryz.func102 k102), ⟨⟨trivial, Qo.some (Qu (g := (.i (.i (.i (.o (.o (.i (.i (.o .h))))))))) Qt hM Tryz.func358 k358), trivial⟩, Qo.none, trivial⟩⟩⟩, Qo.some (Qu (g := (.i (.i (.i (.o .h))))) Qt hM Tryz.func22 k22), ⟨⟨⟨⟨trivial, Qo.some (Qu (g := (.i (.i (.i (.o (.i (.o (.o (.o .h))))))))) Qt hM Tryz.func278 k278), trivial⟩, Qo.some (Qu (g := (.i (.i (.i (.o (.i (.o (.o .h)))))))) Qt hM Tryz.func150 k150), trivial⟩, Qo.some (Qu (g := (.i (.i (.i (.o (.i (.o .h))))))) Qt hM Tryz.func86 k86), ⟨⟨trivial, Qo.some (Qu (g := (.i (.i (.i (.o (.i (.o (.i (.o .h))))))))) Qt hM Tryz.func342 k342), trivial⟩, Qo.some (Qu (g := (.i (.i (.i (.o (.i (.o (.i .h)))))))) Qt hM Tryz.func214 k214), trivial⟩⟩, Qo.some (Qu (g := (.i (.i (.i (.o (.i .h)))))) Qt hM Tryz.func54 k54), ⟨⟨⟨trivial, Qo.some (Qu (g := (.i (.i (.i (.o (.i (.i (.o (.o .h))))))))) Qt hM Tryz.func310 k310), trivial⟩, Qo.some (Qu (g := (.i (.i (.i (.o (.i (.i (.o .h)))))))) Qt hM Tryz.func182 k182), ⟨trivial, Qo.some (Qu (g := (.i (.i (.i (.o (.i (.i (.o (.i .h))))))))) Qt hM Tryz.func438 k438), trivial⟩⟩, Qo.some (Qu (g := (.i (.i (.i (.o (.i (.i .h))))))) Qt hM Tryz.func118 k118), ⟨⟨trivial, Qo.some (Qu (g := (.i (.i (.i (.o (.i (.i (.i (.o .h))))))))) Qt hM Tryz.func374 k374), trivial⟩, Qo.none, trivial⟩⟩⟩⟩, Qo.some (Qu (g := (.i (.i (.i .h)))) Qt hM Tryz.func14 k14), ⟨⟨⟨⟨trivial, Qo.some (Qu (g := (.i (.i (.i (.i (.o (.o (.o .h)))))))) Qt hM Tryz.func142 k142), trivial⟩, Qo.some (Qu (g := (.i (.i (.i (.i (.o (.o .h))))))) Qt hM Tryz.func78 k78), ⟨trivial, Qo.some (Qu (g := (.i (.i (.i (.i (.o (.o (.i .h)))))))) Qt hM Tryz.func206 k206), trivial⟩⟩, Qo.none, ⟨⟨⟨trivial, Qo.some (Qu (g := (.i (.i (.i (.i (.o (.i (.o (.o .h))))))))) Qt hM Tryz.func302 k302), trivial⟩, Qo.some (Qu (g := (.i (.i (.i (.i (.o (.i (.o .h)))))))) Qt hM Tryz.func174 k174), trivial⟩, Qo.some (Qu (g := (.i (.i (.i (.i (.o (.i .h))))))) Qt hM Tryz.func110 k110), ⟨trivial, Qo.some (Qu (g := (.i (.i (.i (.i (.o (.i (.i .h)))))))) Qt hM Tryz.func238 k238), trivial⟩⟩⟩, Qo.some (Qu (g := (.i (.i (.i (.i .h))))) Qt hM Tryz.func30 k30), ⟨⟨⟨⟨trivial, Qo.some (Qu (g := (.i (.i (.i (.i (.i (.o (.o (.o .h))))))))) Qt hM Tryz.func286 k286), trivial⟩, Qo.some (Qu (g := (.i (.i (.i (.i (.i (.o (.o .h)))))))) Qt hM Tryz.func158 k158), ⟨trivial, Qo.some (Qu (g := (.i (.i (.i (.i (.i (.o (.o (.i .h))))))))) Qt hM Tryz.func414 k414), trivial⟩⟩, Qo.none, ⟨⟨trivial, Qo.some (Qu (g := (.i (.i (.i (.i (.i (.o (.i (.o .h))))))))) Qt hM Tryz.func350 k350), trivial⟩, Qo.none, trivial⟩⟩, Qo.some (Qu (g := (.i (.i (.i (.i (.i .h)))))) Qt hM Tryz.func62 k62), ⟨⟨⟨trivial, Qo.some (Qu (g := (.i (.i (.i (.i (.i (.i (.o (.o .h))))))))) Qt hM Tryz.func318 k318), trivial⟩, Qo.some (Qu (g := (.i (.i (.i (.i (.i (.i (.o .h)))))))) Qt hM Tryz.func190 k190), trivial⟩, Qo.none, ⟨⟨trivial, Qo.some (Qu (g := (.i (.i (.i (.i (.i (.i (.i (.o .h))))))))) Qt hM Tryz.func382 k382), trivial⟩, Qo.some (Qu (g := (.i (.i (.i (.i (.i (.i (.i .h)))))))) Qt hM Tryz.func254 k254), trivial⟩⟩⟩⟩⟩⟩⟩⟩)
end Go.Ev
namespace Go.Proofs.YtibipfdpembkgaaGreatDoor
open Go.Ev Go.RowKit
theorem D1 (ns : List Nat) : Qd eU8 (bs ns) = ns.map (fun n => Value.int .u8 ((UInt8.ofNat n).toNat : Int)) := by
  induction ns with
  | nil => rfl
  | cons n ns ih =>
    show Qd eU8 (UInt8.ofNat n :: bs ns) = _
    rw [Zc, ih]; rfl
theorem Fo (ls : List (List Nat)) : Qd eStr (ls.map bs) = ls.map (fun s => Value.string (Xa s)) := by
  induction ls with
  | nil => rfl
  | cons n ns ih =>
    rw [List.map_cons, Zc, ih]; rfl
section
variable {w₀ w : World} {K : Gd} {ι : Io} {h : H} {ar : List AV} {vs : List Value}
theorem Nq (s : SR (CkC Tryz.prog) w₀ K ι h w) {w' : World} (hb : Below w.heap.size w w') {u : AV} {v : Value} (hv : VR ι u v) {R : Ending → World → Prop} (ho : B7 (CkC Tryz.prog) w₀ K ι h R (u, h)) : R (.returned v) w' :=
  ho ι w' v (Ext.same rfl) (s.leave hb) hv
theorem rd_none {α : Type} (e : Enc α) (w : World) : RdT e w none 0 [] := ⟨by rw [Ez]; simp, by simp, by decide, fun hn => absurd hn (by simp)⟩
def okM (L : List UInt8 → Option (List UInt8)) (e : List Nat × List Nat) : Prop := L (bs e.1) = some (bs e.2) ∧ ∀ b ∈ e.2, b < 256
theorem dig_of {g : Nat} {L : List UInt8 → Option (List UInt8)} (walk : ∀ (A : Option Addr) (c : Nat) (p : List UInt8) (w0 : World), RdT eU8 w0 A c p → ∀ r, L p = some r → Calls Tryz.prog g #[lv A p c] w0 fun e W => e = .returned (.agg (Qd eU8 r).toArray) ∧ SP [] w0 W [])
    {tb : Mm} (ht : ∀ e ∈ tb, okM L e) (s : SR (CkC Tryz.prog) w₀ K ι h w) (hv : VRs ι ar vs) {R : Ending → World → Prop} (hS : RA (digE tb ar h) (B7 (CkC Tryz.prog) w₀ K ι h R)) : CallsIn Fence.wide 0 Tryz.prog g vs.toArray w R := by
  obtain ⟨l, hl, hS⟩ := Q0 hS
  obtain ⟨r, hr, hS⟩ := Q0 hS
  have hm := ht _ (Hm hr)
  have key : ∃ A c, vs = [lv A (bs l) c] ∧ RdT eU8 w A c (bs l) := by
    unfold bytesE at hl
    split at hl
    · rename_i x o n c ex z
      obtain ⟨hz, hl⟩ := Qx hl
      have hz := Nat.eq_of_beq_eq_true hz
      subst hz
      obtain ⟨m, hm1, hl⟩ := Qa hl
      rw [VRs] at hv
      obtain ⟨v, vs', rfl, hv, hn⟩ := hv
      rw [VRs] at hn; subst hn
      obtain ⟨A, c', us, rfl, h1, h2, h3, h4, h5⟩ := s.row hv hm1
      obtain ⟨e1, e2⟩ := Hl hl h3
      have hlen : (bs l).length = n := by rw [← h4, e1]; simp [bs]
      refine ⟨A, c', by rw [show lv A (bs l) c' = Value.slice A (bs l).length c' from rfl, hlen], ?_, by rw [hlen]; exact h1, h2, fun hp => ?_⟩
      · rw [Vg]
      · rw [hlen] at hp
        obtain ⟨b, off, g1, g2, g3⟩ := h5 hp
        refine ⟨b, off, g1, g2, fun j u hu => ?_⟩
        rw [D1, ← e1] at hu
        exact g3 j u hu
    · injection hl with hl
      subst hl
      rw [VRs] at hv
      obtain ⟨v, vs', rfl, hv, hn⟩ := hv
      rw [VRs] at hn; subst hn
      rw [VR] at hv; subst hv
      exact ⟨none, 0, rfl, rd_none eU8 w⟩
    · cases hl
  obtain ⟨A, c, rfl, hrd⟩ := key
  refine callsIn_wide.2 ((walk A c (bs l) w hrd _ hm.1).mono ?_)
  rintro e W ⟨rfl, hsp⟩
  refine Nq s hsp.keeps ?_ hS
  rw [D1]
  exact ag_bytes hm.2
theorem join_of (s : SR (CkC Tryz.prog) w₀ K ι h w) (hv : VRs ι ar vs) {R : Ending → World → Prop} (hS : RA (joinE ar h) (B7 (CkC Tryz.prog) w₀ K ι h R)) : CallsIn Fence.wide 0 Tryz.prog 243 vs.toArray w R := by
  unfold joinE at hS
  split at hS
  · rename_i x o n c ex z sep
    obtain ⟨hz, hS⟩ := Y8 hS
    have hz := Nat.eq_of_beq_eq_true hz
    subst hz
    obtain ⟨l, hl, hS⟩ := Q0 hS
    obtain ⟨ls, hls, hS⟩ := Q0 hS
    obtain ⟨r, hr, hS⟩ := Q0 hS
    obtain ⟨hb, hS⟩ := Y8 hS
    obtain ⟨b1, b2⟩ := Q2 hb
    have b1 := Nat.le_of_ble_eq_true b1
    have b2 := Nat.le_of_ble_eq_true b2
    rw [VRs] at hv
    obtain ⟨v, vs', rfl, hv, hn⟩ := hv
    rw [VRs] at hn
    obtain ⟨v2, vs2, rfl, hv2, hn⟩ := hn
    rw [VRs] at hn; subst hn
    rw [VR] at hv2
    obtain ⟨rfl, hsep⟩ := hv2
    obtain ⟨A, c', us, rfl, h1, h2, h3, h4, h5⟩ := s.row hv hl
    obtain ⟨e1, e2⟩ := strs_of hls h3
    obtain ⟨j1, j2⟩ := joinL_ok hr
    have hlen : (ls.map bs).length = n := by rw [← h4, e1]; simp
    have hn65 : n ≤ 65536 := by
      have : R7 ls = ls.length := X4 ls
      rw [this] at b1
      simpa using hlen ▸ (show (ls.map bs).length ≤ 65536 by simpa using b1)
    have hr65 : (bs r).length ≤ 65536 := by
      have : R7 r = r.length := X4 r
      rw [this] at b2
      simpa [bs] using b2
    have hrd : RdT eStr w A c' (ls.map bs) := by
      refine ⟨by rw [Vg], by rw [hlen]; exact h1, h2, fun hp => ?_⟩
      rw [hlen] at hp
      obtain ⟨b, off, g1, g2, g3⟩ := h5 hp
      refine ⟨b, off, g1, g2, fun j u hu => ?_⟩
      rw [Fo, ← e1] at hu
      exact g3 j u hu
    have hL : Yj (ls.map bs) (bs sep) = some (bs r) := by
      unfold Yj
      rw [j1]
      have t1 : Nat.ble (ls.map bs).length 140737488355328 = true := Nat.ble_eq_true_of_le (by omega)
      have t2 : Nat.ble (bs r).length 140737488355328 = true := Nat.ble_eq_true_of_le (by omega)
      rw [t1, t2]; rfl
    have := Y4 A c' (ls.map bs) (bs sep) w hrd _ hL
    rw [hlen] at this
    refine callsIn_wide.2 (this.mono ?_)
    rintro e W ⟨rfl, hsp⟩
    refine Nq s hsp.keeps ?_ hS
    rw [VR]
    exact ⟨rfl, j2 hsep e2⟩
  · rename_i sep
    rw [VRs] at hv
    obtain ⟨v, vs', rfl, hv, hn⟩ := hv
    rw [VRs] at hn
    obtain ⟨v2, vs2, rfl, hv2, hn⟩ := hn
    rw [VRs] at hn; subst hn
    rw [VR] at hv
    subst hv
    rw [VR] at hv2
    obtain ⟨rfl, hsep⟩ := hv2
    refine callsIn_wide.2 ((Y4 none 0 [] (bs sep) w (rd_none eStr w) [] rfl).mono ?_)
    rintro e W ⟨rfl, hsp⟩
    refine Nq (u := .s []) s hsp.keeps ?_ hS
    rw [VR]
    exact ⟨rfl, fun b hb => by simp at hb⟩
  · exact hS.elim
end
def HeadS : Prop := ∀ W : World, Calls Tryz.prog 4 #[] W fun e W' => e = .returned (.bool true) ∧ Below W.heap.size W W'
theorem prS {a b : Mm} (ha : ∀ e ∈ a, okM Vi e) (hb : ∀ e ∈ b, okM Vh e) {up : Bool} (hup : up = true → HeadS) (w₀ : World) : PrS Tryz.prog w₀ U9 (prE a b up) := by
  intro g c k hg hk K ι h w ar vs s hv R hS
  have hat := Bz (f := prAt [243, 395, 87, 4]) (show If _ U9 = true by decide +kernel) g c hg
  unfold prAt at hat
  rw [hk] at hat
  match k, hat, hS with
  | 0, hat, hS =>
    have hg : g.dec = 243 := Nat.eq_of_beq_eq_true hat
    rw [hg]
    exact join_of s hv hS
  | 1, hat, hS =>
    have hg : g.dec = 395 := Nat.eq_of_beq_eq_true hat
    rw [hg]
    exact dig_of (fun A c p w0 h r H => N0 A c p w0 h r H) ha s hv hS
  | 2, hat, hS =>
    have hg : g.dec = 87 := Nat.eq_of_beq_eq_true hat
    rw [hg]
    exact dig_of (fun A c p w0 h r H => Uc A c p w0 h r H) hb s hv hS
  | 3, hat, hS =>
    have hg : g.dec = 4 := Nat.eq_of_beq_eq_true hat
    rw [hg]
    cases up with
    | false => exact hS.elim
    | true =>
      cases ar with
      | cons a r => exact hS.elim
      | nil =>
        rw [VRs] at hv; subst hv
        refine callsIn_wide.2 ((hup rfl w).mono ?_)
        rintro e W ⟨rfl, hbel⟩
        exact Nq s hbel (by rw [VR]) hS
  | k + 4, hat, hS => cases hat
end Go.Proofs.YtibipfdpembkgaaGreatDoor
namespace Go.Proofs.YtibipfdpembkgaaGreatDoor
open Go.Ev Go.RowKit
set_option maxRecDepth 100000
def okD (L : List UInt8 → Option (List UInt8)) (e : List Nat × List Nat) : Bool := (match L (bs e.1) with | some r => r == bs e.2 | none => false) && e.2.all fun b => Nat.blt b 256
theorem X7 {L : List UInt8 → Option (List UInt8)} {e : List Nat × List Nat} (h : okD L e = true) : okM L e := by
  obtain ⟨h1, h2⟩ := Q3 h
  refine ⟨?_, fun b hb => by have := List.all_eq_true.1 h2 b hb; rwa [Nat.blt_eq] at this⟩
  cases hl : L (bs e.1) with
  | none => rw [hl] at h1; cases h1
  | some r => rw [hl] at h1; rw [eq_of_beq h1]
theorem td0_ok : okD Vi td0 = true := by decide +kernel
theorem td1_ok : okD Vi td1 = true := by decide +kernel
theorem td2_ok : okD Vi td2 = true := by decide +kernel
theorem td3_ok : okD Vi td3 = true := by decide +kernel
theorem td4_ok : okD Vi td4 = true := by decide +kernel
theorem td5_ok : okD Vi td5 = true := by decide +kernel
theorem td6_ok : okD Vi td6 = true := by decide +kernel
theorem td7_ok : okD Vi td7 = true := by decide +kernel
theorem td8_ok : okD Vi td8 = true := by decide +kernel
theorem td9_ok : okD Vi td9 = true := by decide +kernel
theorem td10_ok : okD Vi td10 = true := by decide +kernel
theorem td11_ok : okD Vi td11 = true := by decide +kernel
theorem TD_ok : ∀ e ∈ TD, okM Vi e := by
  intro e he
  simp only [TD, List.mem_cons, List.not_mem_nil, or_false] at he
  rcases he with rfl | rfl | rfl | rfl | rfl | rfl | rfl | rfl | rfl | rfl | rfl | rfl
  · exact X7 td0_ok
  · exact X7 td1_ok
  · exact X7 td2_ok
  · exact X7 td3_ok
  · exact X7 td4_ok
  · exact X7 td5_ok
  · exact X7 td6_ok
  · exact X7 td7_ok
  · exact X7 td8_ok
  · exact X7 td9_ok
  · exact X7 td10_ok
  · exact X7 td11_ok
theorem tr0_ok : okD Vh tr0 = true := by decide +kernel
theorem tr1_ok : okD Vh tr1 = true := by decide +kernel
theorem tr2_ok : okD Vh tr2 = true := by decide +kernel
theorem tr3_ok : okD Vh tr3 = true := by decide +kernel
theorem tr4_ok : okD Vh tr4 = true := by decide +kernel
theorem tr5_ok : okD Vh tr5 = true := by decide +kernel
theorem TR_ok : ∀ e ∈ TR, okM Vh e := by
  intro e he
  simp only [TR, List.mem_cons, List.not_mem_nil, or_false] at he
  rcases he with rfl | rfl | rfl | rfl | rfl | rfl
  · exact X7 tr0_ok
  · exact X7 tr1_ok
  · exact X7 tr2_ok
  · exact X7 tr3_ok
  · exact X7 tr4_ok
  · exact X7 tr5_ok
end Go.Proofs.YtibipfdpembkgaaGreatDoor
namespace Go.Proofs.YtibipfdpembkgaaGreatDoor
open Go.Ev Go.RowKit
set_option maxRecDepth 100000
theorem head_run : okT (fnE (clE U9 (prE TD TR false) 60) hdF [] ⟨.e, .e, .h⟩) = true := by decide +kernel
theorem headS : HeadS := fun W => Hr (g := .i (.o .h)) ctOk W (prS TD_ok TR_ok (fun h => by cases h) W) Tryz.func4 (cF_ok Qt hM khd) (show VRs (fun _ => none) [] [] by rw [VRs]) head_run
end Go.Proofs.YtibipfdpembkgaaGreatDoor

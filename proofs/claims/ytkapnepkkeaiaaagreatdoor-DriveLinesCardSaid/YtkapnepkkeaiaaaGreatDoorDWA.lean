/- The call of awake returns true. -/
import Derived.Test.YtkapnepkkeaiaaaGreatDoorDKW
import Derived.Lib.LaidTab
import Derived.Stop.LaidErr
import Derived.Test.YtkapnepkkeaiaaaGreatDoorDF
import Derived.Test.YtkapnepkkeaiaaaGreatDoorDS
import Derived.Test.YtkapnepkkeaiaaaGreatDoorDE0
import Derived.Test.YtkapnepkkeaiaaaGreatDoorDE1
import Derived.Test.YtkapnepkkeaiaaaGreatDoorDE2
import Derived.Test.YtkapnepkkeaiaaaGreatDoorDE3
import Derived.Test.YtkapnepkkeaiaaaGreatDoorDGTilecovers
import Derived.Test.YtkapnepkkeaiaaaGreatDoorDGTilecheck
import Derived.Test.YtkapnepkkeaiaaaGreatDoorDGPlacecheck
import Derived.Test.YtkapnepkkeaiaaaGreatDoorDGSchedfunc
import Derived.Test.YtkapnepkkeaiaaaGreatDoorDGCodeops
import Derived.Test.YtkapnepkkeaiaaaGreatDoorDGLinearfunc
import Derived.Test.YtkapnepkkeaiaaaGreatDoorDGAsmfunc
import Derived.Test.YtkapnepkkeaiaaaGreatDoorDGChoosefunc
import Derived.Test.YtkapnepkkeaiaaaGreatDoorDGTextparse
import Derived.Test.YtkapnepkkeaiaaaGreatDoorDGBackfunc
import Derived.Test.YtkapnepkkeaiaaaGreatDoorDGAuditcheck
import Derived.Test.YtkapnepkkeaiaaaGreatDoorDGCovercheapest
import Derived.Test.YtkapnepkkeaiaaaGreatDoorDGCovercheck
import Derived.Test.YtkapnepkkeaiaaaGreatDoorDMain
namespace Go.Proofs.YtkapnepkkeaiaaaGreatDoor
open Sx Go.RowKit
set_option maxRecDepth 100000


theorem all_nil {p : Ent → Prop} : ∀ e ∈ ([] : List Ent), p e := fun e h => by cases h
theorem all_cons {p : Ent → Prop} {a : Ent} {l : List Ent} (h : p a) (t : ∀ e ∈ l, p e) : ∀ e ∈ a :: l, p e := fun e he => by
  rcases List.mem_cons.1 he with rfl | he
  · exact h
  · exact t e he

theorem W0 : World0 Tryz.prog O0 := ⟨typesOk, mixed, noNum, extOk, dqOk,
  caL_ok all_nil⟩
theorem ok_ent0 : EntOk Tryz.prog ent0 := .of W0 run_ent0
theorem ok_ent1 : EntOk Tryz.prog ent1 := .of W0 run_ent1
theorem ok_ent2 : EntOk Tryz.prog ent2 := .of W0 run_ent2
theorem ok_ent4 : EntOk Tryz.prog ent4 := .of W0 run_ent4
theorem ok_ent5 : EntOk Tryz.prog ent5 := .of W0 run_ent5
theorem ok_ent44 : EntOk Tryz.prog ent44 := .of W0 run_ent44
theorem ok_ent47 : EntOk Tryz.prog ent47 := .of W0 run_ent47
theorem ok_ent87 : EntOk Tryz.prog ent87 := .of W0 run_ent87
theorem ok_ent94 : EntOk Tryz.prog ent94 := .of W0 run_ent94
theorem ok_ent95 : EntOk Tryz.prog ent95 := .of W0 run_ent95
theorem ok_ent96 : EntOk Tryz.prog ent96 := .of W0 run_ent96
theorem ok_ent97 : EntOk Tryz.prog ent97 := .of W0 run_ent97
theorem ok_ent98 : EntOk Tryz.prog ent98 := .of W0 run_ent98
theorem ok_ent99 : EntOk Tryz.prog ent99 := .of W0 run_ent99
theorem ok_ent100 : EntOk Tryz.prog ent100 := .of W0 run_ent100
theorem ok_ent101 : EntOk Tryz.prog ent101 := .of W0 run_ent101
theorem ok_ent102 : EntOk Tryz.prog ent102 := .of W0 run_ent102
theorem ok_ent103 : EntOk Tryz.prog ent103 := .of W0 run_ent103
theorem ok_ent104 : EntOk Tryz.prog ent104 := .of W0 run_ent104
theorem ok_ent105 : EntOk Tryz.prog ent105 := .of W0 run_ent105
theorem ok_ent106 : EntOk Tryz.prog ent106 := .of W0 run_ent106
theorem ok_ent107 : EntOk Tryz.prog ent107 := .of W0 run_ent107
theorem ok_ent108 : EntOk Tryz.prog ent108 := .of W0 run_ent108
theorem ok_ent109 : EntOk Tryz.prog ent109 := .of W0 run_ent109
theorem ok_ent110 : EntOk Tryz.prog ent110 := .of W0 run_ent110
theorem ok_ent111 : EntOk Tryz.prog ent111 := .of W0 run_ent111
theorem ok_ent112 : EntOk Tryz.prog ent112 := .of W0 run_ent112
theorem ok_ent113 : EntOk Tryz.prog ent113 := .of W0 run_ent113
theorem ok_ent114 : EntOk Tryz.prog ent114 := .of W0 run_ent114
theorem ok_ent115 : EntOk Tryz.prog ent115 := .of W0 run_ent115
theorem ok_ent121 : EntOk Tryz.prog ent121 := .of W0 run_ent121
theorem W1 : World0 Tryz.prog O1 := ⟨typesOk, mixed, noNum, extOk, dqOk,
  caL_ok (all_cons ok_ent0 (all_cons ok_ent1 (all_cons ok_ent2 (all_cons ok_ent4 (all_cons ok_ent5 (all_cons ok_ent44 (all_cons ok_ent47 (all_cons ok_ent87 (all_cons ok_ent94 (all_cons ok_ent95 (all_cons ok_ent96 (all_cons ok_ent97 (all_cons ok_ent98 (all_cons ok_ent99 (all_cons ok_ent100 (all_cons ok_ent101 (all_cons ok_ent102 (all_cons ok_ent103 (all_cons ok_ent104 (all_cons ok_ent105 (all_cons ok_ent106 (all_cons ok_ent107 (all_cons ok_ent108 (all_cons ok_ent109 (all_cons ok_ent110 (all_cons ok_ent111 (all_cons ok_ent112 (all_cons ok_ent113 (all_cons ok_ent114 (all_cons ok_ent115 (all_cons ok_ent121 all_nil)))))))))))))))))))))))))))))))⟩
theorem ok_ent3 : EntOk Tryz.prog ent3 := .of W1 run_ent3
theorem ok_ent6 : EntOk Tryz.prog ent6 := .of W1 run_ent6
theorem ok_ent7 : EntOk Tryz.prog ent7 := .of W1 run_ent7
theorem ok_ent8 : EntOk Tryz.prog ent8 := .of W1 run_ent8
theorem ok_ent9 : EntOk Tryz.prog ent9 := .of W1 run_ent9
theorem ok_ent10 : EntOk Tryz.prog ent10 := .of W1 run_ent10
theorem ok_ent11 : EntOk Tryz.prog ent11 := .of W1 run_ent11
theorem ok_ent12 : EntOk Tryz.prog ent12 := .of W1 run_ent12
theorem ok_ent13 : EntOk Tryz.prog ent13 := .of W1 run_ent13
theorem ok_ent14 : EntOk Tryz.prog ent14 := .of W1 run_ent14
theorem ok_ent15 : EntOk Tryz.prog ent15 := .of W1 run_ent15
theorem ok_ent16 : EntOk Tryz.prog ent16 := .of W1 run_ent16
theorem ok_ent17 : EntOk Tryz.prog ent17 := .of W1 run_ent17
theorem ok_ent18 : EntOk Tryz.prog ent18 := .of W1 run_ent18
theorem ok_ent19 : EntOk Tryz.prog ent19 := .of W1 run_ent19
theorem ok_ent20 : EntOk Tryz.prog ent20 := .of W1 run_ent20
theorem ok_ent21 : EntOk Tryz.prog ent21 := .of W1 run_ent21
theorem ok_ent22 : EntOk Tryz.prog ent22 := .of W1 run_ent22
theorem ok_ent23 : EntOk Tryz.prog ent23 := .of W1 run_ent23
theorem ok_ent24 : EntOk Tryz.prog ent24 := .of W1 run_ent24
theorem ok_ent25 : EntOk Tryz.prog ent25 := .of W1 run_ent25
theorem ok_ent26 : EntOk Tryz.prog ent26 := .of W1 run_ent26
theorem ok_ent27 : EntOk Tryz.prog ent27 := .of W1 run_ent27
theorem ok_ent28 : EntOk Tryz.prog ent28 := .of W1 run_ent28
theorem ok_ent29 : EntOk Tryz.prog ent29 := .of W1 run_ent29
theorem ok_ent30 : EntOk Tryz.prog ent30 := .of W1 run_ent30
theorem ok_ent31 : EntOk Tryz.prog ent31 := .of W1 run_ent31
theorem ok_ent32 : EntOk Tryz.prog ent32 := .of W1 run_ent32
theorem ok_ent33 : EntOk Tryz.prog ent33 := .of W1 run_ent33
theorem ok_ent34 : EntOk Tryz.prog ent34 := .of W1 run_ent34
theorem ok_ent35 : EntOk Tryz.prog ent35 := .of W1 run_ent35
theorem ok_ent36 : EntOk Tryz.prog ent36 := .of W1 run_ent36
theorem ok_ent37 : EntOk Tryz.prog ent37 := .of W1 run_ent37
theorem ok_ent38 : EntOk Tryz.prog ent38 := .of W1 run_ent38
theorem ok_ent39 : EntOk Tryz.prog ent39 := .of W1 run_ent39
theorem ok_ent40 : EntOk Tryz.prog ent40 := .of W1 run_ent40
theorem ok_ent41 : EntOk Tryz.prog ent41 := .of W1 run_ent41
theorem ok_ent42 : EntOk Tryz.prog ent42 := .of W1 run_ent42
theorem ok_ent45 : EntOk Tryz.prog ent45 := .of W1 run_ent45
theorem ok_ent46 : EntOk Tryz.prog ent46 := .of W1 run_ent46
theorem ok_ent86 : EntOk Tryz.prog ent86 := .of W1 run_ent86
theorem ok_ent89 : EntOk Tryz.prog ent89 := .of W1 run_ent89
theorem ok_ent116 : EntOk Tryz.prog ent116 := .of W1 run_ent116
theorem ok_ent120 : EntOk Tryz.prog ent120 := .of W1 run_ent120
theorem W2 : World0 Tryz.prog O2 := ⟨typesOk, mixed, noNum, extOk, dqOk,
  caL_ok (all_cons ok_ent0 (all_cons ok_ent1 (all_cons ok_ent2 (all_cons ok_ent3 (all_cons ok_ent4 (all_cons ok_ent5 (all_cons ok_ent6 (all_cons ok_ent7 (all_cons ok_ent8 (all_cons ok_ent9 (all_cons ok_ent10 (all_cons ok_ent11 (all_cons ok_ent12 (all_cons ok_ent13 (all_cons ok_ent14 (all_cons ok_ent15 (all_cons ok_ent16 (all_cons ok_ent17 (all_cons ok_ent18 (all_cons ok_ent19 (all_cons ok_ent20 (all_cons ok_ent21 (all_cons ok_ent22 (all_cons ok_ent23 (all_cons ok_ent24 (all_cons ok_ent25 (all_cons ok_ent26 (all_cons ok_ent27 (all_cons ok_ent28 (all_cons ok_ent29 (all_cons ok_ent30 (all_cons ok_ent31 (all_cons ok_ent32 (all_cons ok_ent33 (all_cons ok_ent34 (all_cons ok_ent35 (all_cons ok_ent36 (all_cons ok_ent37 (all_cons ok_ent38 (all_cons ok_ent39 (all_cons ok_ent40 (all_cons ok_ent41 (all_cons ok_ent42 (all_cons ok_ent44 (all_cons ok_ent45 (all_cons ok_ent46 (all_cons ok_ent47 (all_cons ok_ent86 (all_cons ok_ent87 (all_cons ok_ent89 (all_cons ok_ent94 (all_cons ok_ent95 (all_cons ok_ent96 (all_cons ok_ent97 (all_cons ok_ent98 (all_cons ok_ent99 (all_cons ok_ent100 (all_cons ok_ent101 (all_cons ok_ent102 (all_cons ok_ent103 (all_cons ok_ent104 (all_cons ok_ent105 (all_cons ok_ent106 (all_cons ok_ent107 (all_cons ok_ent108 (all_cons ok_ent109 (all_cons ok_ent110 (all_cons ok_ent111 (all_cons ok_ent112 (all_cons ok_ent113 (all_cons ok_ent114 (all_cons ok_ent115 (all_cons ok_ent116 (all_cons ok_ent120 (all_cons ok_ent121 all_nil)))))))))))))))))))))))))))))))))))))))))))))))))))))))))))))))))))))))))))⟩
theorem ok_ent43 : EntOk Tryz.prog ent43 := .of W2 run_ent43
theorem ok_ent49 : EntOk Tryz.prog ent49 := .of W2 run_ent49
theorem ok_ent50 : EntOk Tryz.prog ent50 := .of W2 run_ent50
theorem ok_ent51 : EntOk Tryz.prog ent51 := .of W2 run_ent51
theorem ok_ent52 : EntOk Tryz.prog ent52 := .of W2 run_ent52
theorem ok_ent53 : EntOk Tryz.prog ent53 := .of W2 run_ent53
theorem ok_ent54 : EntOk Tryz.prog ent54 := .of W2 run_ent54
theorem ok_ent55 : EntOk Tryz.prog ent55 := .of W2 run_ent55
theorem ok_ent56 : EntOk Tryz.prog ent56 := .of W2 run_ent56
theorem ok_ent57 : EntOk Tryz.prog ent57 := .of W2 run_ent57
theorem ok_ent58 : EntOk Tryz.prog ent58 := .of W2 run_ent58
theorem ok_ent59 : EntOk Tryz.prog ent59 := .of W2 run_ent59
theorem ok_ent60 : EntOk Tryz.prog ent60 := .of W2 run_ent60
theorem ok_ent61 : EntOk Tryz.prog ent61 := .of W2 run_ent61
theorem ok_ent62 : EntOk Tryz.prog ent62 := .of W2 run_ent62
theorem ok_ent63 : EntOk Tryz.prog ent63 := .of W2 run_ent63
theorem ok_ent64 : EntOk Tryz.prog ent64 := .of W2 run_ent64
theorem ok_ent65 : EntOk Tryz.prog ent65 := .of W2 run_ent65
theorem ok_ent66 : EntOk Tryz.prog ent66 := .of W2 run_ent66
theorem ok_ent67 : EntOk Tryz.prog ent67 := .of W2 run_ent67
theorem ok_ent68 : EntOk Tryz.prog ent68 := .of W2 run_ent68
theorem ok_ent69 : EntOk Tryz.prog ent69 := .of W2 run_ent69
theorem ok_ent70 : EntOk Tryz.prog ent70 := .of W2 run_ent70
theorem ok_ent71 : EntOk Tryz.prog ent71 := .of W2 run_ent71
theorem ok_ent72 : EntOk Tryz.prog ent72 := .of W2 run_ent72
theorem ok_ent73 : EntOk Tryz.prog ent73 := .of W2 run_ent73
theorem ok_ent74 : EntOk Tryz.prog ent74 := .of W2 run_ent74
theorem ok_ent75 : EntOk Tryz.prog ent75 := .of W2 run_ent75
theorem ok_ent76 : EntOk Tryz.prog ent76 := .of W2 run_ent76
theorem ok_ent77 : EntOk Tryz.prog ent77 := .of W2 run_ent77
theorem ok_ent78 : EntOk Tryz.prog ent78 := .of W2 run_ent78
theorem ok_ent79 : EntOk Tryz.prog ent79 := .of W2 run_ent79
theorem ok_ent80 : EntOk Tryz.prog ent80 := .of W2 run_ent80
theorem ok_ent81 : EntOk Tryz.prog ent81 := .of W2 run_ent81
theorem ok_ent82 : EntOk Tryz.prog ent82 := .of W2 run_ent82
theorem ok_ent83 : EntOk Tryz.prog ent83 := .of W2 run_ent83
theorem ok_ent84 : EntOk Tryz.prog ent84 := .of W2 run_ent84
theorem ok_ent85 : EntOk Tryz.prog ent85 := .of W2 run_ent85
theorem ok_ent88 : EntOk Tryz.prog ent88 := .of W2 run_ent88
theorem ok_ent90 : EntOk Tryz.prog ent90 := .of W2 run_ent90
theorem ok_ent92 : EntOk Tryz.prog ent92 := .of W2 run_ent92
theorem ok_ent93 : EntOk Tryz.prog ent93 := .of W2 run_ent93
theorem ok_ent117 : EntOk Tryz.prog ent117 := .of W2 run_ent117
theorem ok_ent119 : EntOk Tryz.prog ent119 := .of W2 run_ent119
theorem ok_ent122 : EntOk Tryz.prog ent122 := .of W2 run_ent122
theorem ok_ent123 : EntOk Tryz.prog ent123 := .of W2 run_ent123
theorem ok_ent124 : EntOk Tryz.prog ent124 := .of W2 run_ent124
theorem ok_ent125 : EntOk Tryz.prog ent125 := .of W2 run_ent125
theorem ok_ent126 : EntOk Tryz.prog ent126 := .of W2 run_ent126
theorem ok_ent127 : EntOk Tryz.prog ent127 := .of W2 run_ent127
theorem ok_ent128 : EntOk Tryz.prog ent128 := .of W2 run_ent128
theorem ok_ent129 : EntOk Tryz.prog ent129 := .of W2 run_ent129
theorem ok_ent130 : EntOk Tryz.prog ent130 := .of W2 run_ent130
theorem ok_ent131 : EntOk Tryz.prog ent131 := .of W2 run_ent131
theorem ok_ent132 : EntOk Tryz.prog ent132 := .of W2 run_ent132
theorem ok_ent133 : EntOk Tryz.prog ent133 := .of W2 run_ent133
theorem ok_ent134 : EntOk Tryz.prog ent134 := .of W2 run_ent134
theorem ok_ent135 : EntOk Tryz.prog ent135 := .of W2 run_ent135
theorem ok_ent136 : EntOk Tryz.prog ent136 := .of W2 run_ent136
theorem ok_ent137 : EntOk Tryz.prog ent137 := .of W2 run_ent137
theorem ok_ent138 : EntOk Tryz.prog ent138 := .of W2 run_ent138
theorem ok_ent139 : EntOk Tryz.prog ent139 := .of W2 run_ent139
theorem ok_ent140 : EntOk Tryz.prog ent140 := .of W2 run_ent140
theorem ok_ent141 : EntOk Tryz.prog ent141 := .of W2 run_ent141
theorem ok_ent142 : EntOk Tryz.prog ent142 := .of W2 run_ent142
theorem ok_ent143 : EntOk Tryz.prog ent143 := .of W2 run_ent143
theorem ok_ent144 : EntOk Tryz.prog ent144 := .of W2 run_ent144
theorem ok_ent145 : EntOk Tryz.prog ent145 := .of W2 run_ent145
theorem ok_ent146 : EntOk Tryz.prog ent146 := .of W2 run_ent146
theorem ok_ent147 : EntOk Tryz.prog ent147 := .of W2 run_ent147
theorem ok_ent148 : EntOk Tryz.prog ent148 := .of W2 run_ent148
theorem ok_ent149 : EntOk Tryz.prog ent149 := .of W2 run_ent149
theorem ok_ent150 : EntOk Tryz.prog ent150 := .of W2 run_ent150
theorem ok_ent151 : EntOk Tryz.prog ent151 := .of W2 run_ent151
theorem ok_ent152 : EntOk Tryz.prog ent152 := .of W2 run_ent152
theorem ok_ent153 : EntOk Tryz.prog ent153 := .of W2 run_ent153
theorem ok_ent154 : EntOk Tryz.prog ent154 := .of W2 run_ent154
theorem ok_ent155 : EntOk Tryz.prog ent155 := .of W2 run_ent155
theorem ok_ent156 : EntOk Tryz.prog ent156 := .of W2 run_ent156
theorem ok_ent157 : EntOk Tryz.prog ent157 := .of W2 run_ent157
theorem ok_ent158 : EntOk Tryz.prog ent158 := .of W2 run_ent158
theorem ok_ent159 : EntOk Tryz.prog ent159 := .of W2 run_ent159
theorem ok_ent161 : EntOk Tryz.prog ent161 := .of W2 run_ent161
theorem ok_ent162 : EntOk Tryz.prog ent162 := .of W2 run_ent162
theorem ok_ent163 : EntOk Tryz.prog ent163 := .of W2 run_ent163
theorem ok_ent164 : EntOk Tryz.prog ent164 := .of W2 run_ent164
theorem ok_ent165 : EntOk Tryz.prog ent165 := .of W2 run_ent165
theorem ok_ent166 : EntOk Tryz.prog ent166 := .of W2 run_ent166
theorem ok_ent167 : EntOk Tryz.prog ent167 := .of W2 run_ent167
theorem ok_ent168 : EntOk Tryz.prog ent168 := .of W2 run_ent168
theorem ok_ent169 : EntOk Tryz.prog ent169 := .of W2 run_ent169
theorem ok_ent170 : EntOk Tryz.prog ent170 := .of W2 run_ent170
theorem ok_ent171 : EntOk Tryz.prog ent171 := .of W2 run_ent171
theorem ok_ent172 : EntOk Tryz.prog ent172 := .of W2 run_ent172
theorem ok_ent173 : EntOk Tryz.prog ent173 := .of W2 run_ent173
theorem ok_ent174 : EntOk Tryz.prog ent174 := .of W2 run_ent174
theorem ok_ent175 : EntOk Tryz.prog ent175 := .of W2 run_ent175
theorem ok_ent176 : EntOk Tryz.prog ent176 := .of W2 run_ent176
theorem ok_ent177 : EntOk Tryz.prog ent177 := .of W2 run_ent177
theorem ok_ent178 : EntOk Tryz.prog ent178 := .of W2 run_ent178
theorem ok_ent179 : EntOk Tryz.prog ent179 := .of W2 run_ent179
theorem ok_ent180 : EntOk Tryz.prog ent180 := .of W2 run_ent180
theorem ok_ent181 : EntOk Tryz.prog ent181 := .of W2 run_ent181
theorem ok_ent182 : EntOk Tryz.prog ent182 := .of W2 run_ent182
theorem ok_ent183 : EntOk Tryz.prog ent183 := .of W2 run_ent183
theorem ok_ent184 : EntOk Tryz.prog ent184 := .of W2 run_ent184
theorem ok_ent185 : EntOk Tryz.prog ent185 := .of W2 run_ent185
theorem ok_ent186 : EntOk Tryz.prog ent186 := .of W2 run_ent186
theorem ok_ent187 : EntOk Tryz.prog ent187 := .of W2 run_ent187
theorem ok_ent188 : EntOk Tryz.prog ent188 := .of W2 run_ent188
theorem ok_ent189 : EntOk Tryz.prog ent189 := .of W2 run_ent189
theorem ok_ent190 : EntOk Tryz.prog ent190 := .of W2 run_ent190
theorem ok_ent191 : EntOk Tryz.prog ent191 := .of W2 run_ent191
theorem ok_ent192 : EntOk Tryz.prog ent192 := .of W2 run_ent192
theorem ok_ent193 : EntOk Tryz.prog ent193 := .of W2 run_ent193
theorem ok_ent194 : EntOk Tryz.prog ent194 := .of W2 run_ent194
theorem ok_ent195 : EntOk Tryz.prog ent195 := .of W2 run_ent195
theorem ok_ent196 : EntOk Tryz.prog ent196 := .of W2 run_ent196
theorem ok_ent197 : EntOk Tryz.prog ent197 := .of W2 run_ent197
theorem ok_ent198 : EntOk Tryz.prog ent198 := .of W2 run_ent198
theorem ok_ent199 : EntOk Tryz.prog ent199 := .of W2 run_ent199
theorem ok_ent201 : EntOk Tryz.prog ent201 := .of W2 run_ent201
theorem ok_ent202 : EntOk Tryz.prog ent202 := .of W2 run_ent202
theorem ok_ent203 : EntOk Tryz.prog ent203 := .of W2 run_ent203
theorem ok_ent204 : EntOk Tryz.prog ent204 := .of W2 run_ent204
theorem ok_ent205 : EntOk Tryz.prog ent205 := .of W2 run_ent205
theorem ok_ent206 : EntOk Tryz.prog ent206 := .of W2 run_ent206
theorem ok_ent207 : EntOk Tryz.prog ent207 := .of W2 run_ent207
theorem ok_ent208 : EntOk Tryz.prog ent208 := .of W2 run_ent208
theorem ok_ent209 : EntOk Tryz.prog ent209 := .of W2 run_ent209
theorem ok_ent210 : EntOk Tryz.prog ent210 := .of W2 run_ent210
theorem ok_ent211 : EntOk Tryz.prog ent211 := .of W2 run_ent211
theorem ok_ent212 : EntOk Tryz.prog ent212 := .of W2 run_ent212
theorem ok_ent213 : EntOk Tryz.prog ent213 := .of W2 run_ent213
theorem ok_ent214 : EntOk Tryz.prog ent214 := .of W2 run_ent214
theorem ok_ent215 : EntOk Tryz.prog ent215 := .of W2 run_ent215
theorem ok_ent216 : EntOk Tryz.prog ent216 := .of W2 run_ent216
theorem ok_ent217 : EntOk Tryz.prog ent217 := .of W2 run_ent217
theorem ok_ent218 : EntOk Tryz.prog ent218 := .of W2 run_ent218
theorem ok_ent219 : EntOk Tryz.prog ent219 := .of W2 run_ent219
theorem ok_ent220 : EntOk Tryz.prog ent220 := .of W2 run_ent220
theorem ok_ent221 : EntOk Tryz.prog ent221 := .of W2 run_ent221
theorem ok_ent222 : EntOk Tryz.prog ent222 := .of W2 run_ent222
theorem ok_ent223 : EntOk Tryz.prog ent223 := .of W2 run_ent223
theorem ok_ent224 : EntOk Tryz.prog ent224 := .of W2 run_ent224
theorem ok_ent225 : EntOk Tryz.prog ent225 := .of W2 run_ent225
theorem ok_ent226 : EntOk Tryz.prog ent226 := .of W2 run_ent226
theorem ok_ent227 : EntOk Tryz.prog ent227 := .of W2 run_ent227
theorem ok_ent228 : EntOk Tryz.prog ent228 := .of W2 run_ent228
theorem ok_ent229 : EntOk Tryz.prog ent229 := .of W2 run_ent229
theorem ok_ent230 : EntOk Tryz.prog ent230 := .of W2 run_ent230
theorem ok_ent231 : EntOk Tryz.prog ent231 := .of W2 run_ent231
theorem ok_ent232 : EntOk Tryz.prog ent232 := .of W2 run_ent232
theorem ok_ent233 : EntOk Tryz.prog ent233 := .of W2 run_ent233
theorem ok_ent234 : EntOk Tryz.prog ent234 := .of W2 run_ent234
theorem ok_ent235 : EntOk Tryz.prog ent235 := .of W2 run_ent235
theorem ok_ent236 : EntOk Tryz.prog ent236 := .of W2 run_ent236
theorem ok_ent237 : EntOk Tryz.prog ent237 := .of W2 run_ent237
theorem ok_ent238 : EntOk Tryz.prog ent238 := .of W2 run_ent238
theorem ok_ent240 : EntOk Tryz.prog ent240 := .of W2 run_ent240
theorem W3 : World0 Tryz.prog O3 := ⟨typesOk, mixed, noNum, extOk, dqOk,
  caL_ok (all_cons ok_ent0 (all_cons ok_ent1 (all_cons ok_ent2 (all_cons ok_ent3 (all_cons ok_ent4 (all_cons ok_ent5 (all_cons ok_ent6 (all_cons ok_ent7 (all_cons ok_ent8 (all_cons ok_ent9 (all_cons ok_ent10 (all_cons ok_ent11 (all_cons ok_ent12 (all_cons ok_ent13 (all_cons ok_ent14 (all_cons ok_ent15 (all_cons ok_ent16 (all_cons ok_ent17 (all_cons ok_ent18 (all_cons ok_ent19 (all_cons ok_ent20 (all_cons ok_ent21 (all_cons ok_ent22 (all_cons ok_ent23 (all_cons ok_ent24 (all_cons ok_ent25 (all_cons ok_ent26 (all_cons ok_ent27 (all_cons ok_ent28 (all_cons ok_ent29 (all_cons ok_ent30 (all_cons ok_ent31 (all_cons ok_ent32 (all_cons ok_ent33 (all_cons ok_ent34 (all_cons ok_ent35 (all_cons ok_ent36 (all_cons ok_ent37 (all_cons ok_ent38 (all_cons ok_ent39 (all_cons ok_ent40 (all_cons ok_ent41 (all_cons ok_ent42 (all_cons ok_ent43 (all_cons ok_ent44 (all_cons ok_ent45 (all_cons ok_ent46 (all_cons ok_ent47 (all_cons ok_ent49 (all_cons ok_ent50 (all_cons ok_ent51 (all_cons ok_ent52 (all_cons ok_ent53 (all_cons ok_ent54 (all_cons ok_ent55 (all_cons ok_ent56 (all_cons ok_ent57 (all_cons ok_ent58 (all_cons ok_ent59 (all_cons ok_ent60 (all_cons ok_ent61 (all_cons ok_ent62 (all_cons ok_ent63 (all_cons ok_ent64 (all_cons ok_ent65 (all_cons ok_ent66 (all_cons ok_ent67 (all_cons ok_ent68 (all_cons ok_ent69 (all_cons ok_ent70 (all_cons ok_ent71 (all_cons ok_ent72 (all_cons ok_ent73 (all_cons ok_ent74 (all_cons ok_ent75 (all_cons ok_ent76 (all_cons ok_ent77 (all_cons ok_ent78 (all_cons ok_ent79 (all_cons ok_ent80 (all_cons ok_ent81 (all_cons ok_ent82 (all_cons ok_ent83 (all_cons ok_ent84 (all_cons ok_ent85 (all_cons ok_ent86 (all_cons ok_ent87 (all_cons ok_ent88 (all_cons ok_ent89 (all_cons ok_ent90 (all_cons ok_ent92 (all_cons ok_ent93 (all_cons ok_ent94 (all_cons ok_ent95 (all_cons ok_ent96 (all_cons ok_ent97 (all_cons ok_ent98 (all_cons ok_ent99 (all_cons ok_ent100 (all_cons ok_ent101 (all_cons ok_ent102 (all_cons ok_ent103 (all_cons ok_ent104 (all_cons ok_ent105 (all_cons ok_ent106 (all_cons ok_ent107 (all_cons ok_ent108 (all_cons ok_ent109 (all_cons ok_ent110 (all_cons ok_ent111 (all_cons ok_ent112 (all_cons ok_ent113 (all_cons ok_ent114 (all_cons ok_ent115 (all_cons ok_ent116 (all_cons ok_ent117 (all_cons ok_ent119 (all_cons ok_ent120 (all_cons ok_ent121 (all_cons ok_ent122 (all_cons ok_ent123 (all_cons ok_ent124 (all_cons ok_ent125 (all_cons ok_ent126 (all_cons ok_ent127 (all_cons ok_ent128 (all_cons ok_ent129 (all_cons ok_ent130 (all_cons ok_ent131 (all_cons ok_ent132 (all_cons ok_ent133 (all_cons ok_ent134 (all_cons ok_ent135 (all_cons ok_ent136 (all_cons ok_ent137 (all_cons ok_ent138 (all_cons ok_ent139 (all_cons ok_ent140 (all_cons ok_ent141 (all_cons ok_ent142 (all_cons ok_ent143 (all_cons ok_ent144 (all_cons ok_ent145 (all_cons ok_ent146 (all_cons ok_ent147 (all_cons ok_ent148 (all_cons ok_ent149 (all_cons ok_ent150 (all_cons ok_ent151 (all_cons ok_ent152 (all_cons ok_ent153 (all_cons ok_ent154 (all_cons ok_ent155 (all_cons ok_ent156 (all_cons ok_ent157 (all_cons ok_ent158 (all_cons ok_ent159 (all_cons ok_ent161 (all_cons ok_ent162 (all_cons ok_ent163 (all_cons ok_ent164 (all_cons ok_ent165 (all_cons ok_ent166 (all_cons ok_ent167 (all_cons ok_ent168 (all_cons ok_ent169 (all_cons ok_ent170 (all_cons ok_ent171 (all_cons ok_ent172 (all_cons ok_ent173 (all_cons ok_ent174 (all_cons ok_ent175 (all_cons ok_ent176 (all_cons ok_ent177 (all_cons ok_ent178 (all_cons ok_ent179 (all_cons ok_ent180 (all_cons ok_ent181 (all_cons ok_ent182 (all_cons ok_ent183 (all_cons ok_ent184 (all_cons ok_ent185 (all_cons ok_ent186 (all_cons ok_ent187 (all_cons ok_ent188 (all_cons ok_ent189 (all_cons ok_ent190 (all_cons ok_ent191 (all_cons ok_ent192 (all_cons ok_ent193 (all_cons ok_ent194 (all_cons ok_ent195 (all_cons ok_ent196 (all_cons ok_ent197 (all_cons ok_ent198 (all_cons ok_ent199 (all_cons ok_ent201 (all_cons ok_ent202 (all_cons ok_ent203 (all_cons ok_ent204 (all_cons ok_ent205 (all_cons ok_ent206 (all_cons ok_ent207 (all_cons ok_ent208 (all_cons ok_ent209 (all_cons ok_ent210 (all_cons ok_ent211 (all_cons ok_ent212 (all_cons ok_ent213 (all_cons ok_ent214 (all_cons ok_ent215 (all_cons ok_ent216 (all_cons ok_ent217 (all_cons ok_ent218 (all_cons ok_ent219 (all_cons ok_ent220 (all_cons ok_ent221 (all_cons ok_ent222 (all_cons ok_ent223 (all_cons ok_ent224 (all_cons ok_ent225 (all_cons ok_ent226 (all_cons ok_ent227 (all_cons ok_ent228 (all_cons ok_ent229 (all_cons ok_ent230 (all_cons ok_ent231 (all_cons ok_ent232 (all_cons ok_ent233 (all_cons ok_ent234 (all_cons ok_ent235 (all_cons ok_ent236 (all_cons ok_ent237 (all_cons ok_ent238 (all_cons ok_ent240 all_nil)))))))))))))))))))))))))))))))))))))))))))))))))))))))))))))))))))))))))))))))))))))))))))))))))))))))))))))))))))))))))))))))))))))))))))))))))))))))))))))))))))))))))))))))))))))))))))))))))))))))))))))))))))))))))))))))))))))))))))⟩
theorem ok_ent48 : EntOk Tryz.prog ent48 := .of W3 run_ent48
theorem ok_ent160 : EntOk Tryz.prog ent160 := .of W3 run_ent160
theorem W4 : World0 Tryz.prog O4 := ⟨typesOk, mixed, noNum, extOk, dqOk,
  caL_ok (all_cons ok_ent0 (all_cons ok_ent1 (all_cons ok_ent2 (all_cons ok_ent3 (all_cons ok_ent4 (all_cons ok_ent5 (all_cons ok_ent6 (all_cons ok_ent7 (all_cons ok_ent8 (all_cons ok_ent9 (all_cons ok_ent10 (all_cons ok_ent11 (all_cons ok_ent12 (all_cons ok_ent13 (all_cons ok_ent14 (all_cons ok_ent15 (all_cons ok_ent16 (all_cons ok_ent17 (all_cons ok_ent18 (all_cons ok_ent19 (all_cons ok_ent20 (all_cons ok_ent21 (all_cons ok_ent22 (all_cons ok_ent23 (all_cons ok_ent24 (all_cons ok_ent25 (all_cons ok_ent26 (all_cons ok_ent27 (all_cons ok_ent28 (all_cons ok_ent29 (all_cons ok_ent30 (all_cons ok_ent31 (all_cons ok_ent32 (all_cons ok_ent33 (all_cons ok_ent34 (all_cons ok_ent35 (all_cons ok_ent36 (all_cons ok_ent37 (all_cons ok_ent38 (all_cons ok_ent39 (all_cons ok_ent40 (all_cons ok_ent41 (all_cons ok_ent42 (all_cons ok_ent43 (all_cons ok_ent44 (all_cons ok_ent45 (all_cons ok_ent46 (all_cons ok_ent47 (all_cons ok_ent48 (all_cons ok_ent49 (all_cons ok_ent50 (all_cons ok_ent51 (all_cons ok_ent52 (all_cons ok_ent53 (all_cons ok_ent54 (all_cons ok_ent55 (all_cons ok_ent56 (all_cons ok_ent57 (all_cons ok_ent58 (all_cons ok_ent59 (all_cons ok_ent60 (all_cons ok_ent61 (all_cons ok_ent62 (all_cons ok_ent63 (all_cons ok_ent64 (all_cons ok_ent65 (all_cons ok_ent66 (all_cons ok_ent67 (all_cons ok_ent68 (all_cons ok_ent69 (all_cons ok_ent70 (all_cons ok_ent71 (all_cons ok_ent72 (all_cons ok_ent73 (all_cons ok_ent74 (all_cons ok_ent75 (all_cons ok_ent76 (all_cons ok_ent77 (all_cons ok_ent78 (all_cons ok_ent79 (all_cons ok_ent80 (all_cons ok_ent81 (all_cons ok_ent82 (all_cons ok_ent83 (all_cons ok_ent84 (all_cons ok_ent85 (all_cons ok_ent86 (all_cons ok_ent87 (all_cons ok_ent88 (all_cons ok_ent89 (all_cons ok_ent90 (all_cons ok_ent92 (all_cons ok_ent93 (all_cons ok_ent94 (all_cons ok_ent95 (all_cons ok_ent96 (all_cons ok_ent97 (all_cons ok_ent98 (all_cons ok_ent99 (all_cons ok_ent100 (all_cons ok_ent101 (all_cons ok_ent102 (all_cons ok_ent103 (all_cons ok_ent104 (all_cons ok_ent105 (all_cons ok_ent106 (all_cons ok_ent107 (all_cons ok_ent108 (all_cons ok_ent109 (all_cons ok_ent110 (all_cons ok_ent111 (all_cons ok_ent112 (all_cons ok_ent113 (all_cons ok_ent114 (all_cons ok_ent115 (all_cons ok_ent116 (all_cons ok_ent117 (all_cons ok_ent119 (all_cons ok_ent120 (all_cons ok_ent121 (all_cons ok_ent122 (all_cons ok_ent123 (all_cons ok_ent124 (all_cons ok_ent125 (all_cons ok_ent126 (all_cons ok_ent127 (all_cons ok_ent128 (all_cons ok_ent129 (all_cons ok_ent130 (all_cons ok_ent131 (all_cons ok_ent132 (all_cons ok_ent133 (all_cons ok_ent134 (all_cons ok_ent135 (all_cons ok_ent136 (all_cons ok_ent137 (all_cons ok_ent138 (all_cons ok_ent139 (all_cons ok_ent140 (all_cons ok_ent141 (all_cons ok_ent142 (all_cons ok_ent143 (all_cons ok_ent144 (all_cons ok_ent145 (all_cons ok_ent146 (all_cons ok_ent147 (all_cons ok_ent148 (all_cons ok_ent149 (all_cons ok_ent150 (all_cons ok_ent151 (all_cons ok_ent152 (all_cons ok_ent153 (all_cons ok_ent154 (all_cons ok_ent155 (all_cons ok_ent156 (all_cons ok_ent157 (all_cons ok_ent158 (all_cons ok_ent159 (all_cons ok_ent160 (all_cons ok_ent161 (all_cons ok_ent162 (all_cons ok_ent163 (all_cons ok_ent164 (all_cons ok_ent165 (all_cons ok_ent166 (all_cons ok_ent167 (all_cons ok_ent168 (all_cons ok_ent169 (all_cons ok_ent170 (all_cons ok_ent171 (all_cons ok_ent172 (all_cons ok_ent173 (all_cons ok_ent174 (all_cons ok_ent175 (all_cons ok_ent176 (all_cons ok_ent177 (all_cons ok_ent178 (all_cons ok_ent179 (all_cons ok_ent180 (all_cons ok_ent181 (all_cons ok_ent182 (all_cons ok_ent183 (all_cons ok_ent184 (all_cons ok_ent185 (all_cons ok_ent186 (all_cons ok_ent187 (all_cons ok_ent188 (all_cons ok_ent189 (all_cons ok_ent190 (all_cons ok_ent191 (all_cons ok_ent192 (all_cons ok_ent193 (all_cons ok_ent194 (all_cons ok_ent195 (all_cons ok_ent196 (all_cons ok_ent197 (all_cons ok_ent198 (all_cons ok_ent199 (all_cons ok_ent201 (all_cons ok_ent202 (all_cons ok_ent203 (all_cons ok_ent204 (all_cons ok_ent205 (all_cons ok_ent206 (all_cons ok_ent207 (all_cons ok_ent208 (all_cons ok_ent209 (all_cons ok_ent210 (all_cons ok_ent211 (all_cons ok_ent212 (all_cons ok_ent213 (all_cons ok_ent214 (all_cons ok_ent215 (all_cons ok_ent216 (all_cons ok_ent217 (all_cons ok_ent218 (all_cons ok_ent219 (all_cons ok_ent220 (all_cons ok_ent221 (all_cons ok_ent222 (all_cons ok_ent223 (all_cons ok_ent224 (all_cons ok_ent225 (all_cons ok_ent226 (all_cons ok_ent227 (all_cons ok_ent228 (all_cons ok_ent229 (all_cons ok_ent230 (all_cons ok_ent231 (all_cons ok_ent232 (all_cons ok_ent233 (all_cons ok_ent234 (all_cons ok_ent235 (all_cons ok_ent236 (all_cons ok_ent237 (all_cons ok_ent238 (all_cons ok_ent240 all_nil)))))))))))))))))))))))))))))))))))))))))))))))))))))))))))))))))))))))))))))))))))))))))))))))))))))))))))))))))))))))))))))))))))))))))))))))))))))))))))))))))))))))))))))))))))))))))))))))))))))))))))))))))))))))))))))))))))))))))))))⟩
theorem ok_ent91 : EntOk Tryz.prog ent91 := .of W4 run_ent91
theorem ok_ent200 : EntOk Tryz.prog ent200 := .of W4 run_ent200
theorem ok_ent239 : EntOk Tryz.prog ent239 := .of W4 run_ent239
theorem W5 : World0 Tryz.prog O5 := ⟨typesOk, mixed, noNum, extOk, dqOk,
  caL_ok (all_cons ok_ent0 (all_cons ok_ent1 (all_cons ok_ent2 (all_cons ok_ent3 (all_cons ok_ent4 (all_cons ok_ent5 (all_cons ok_ent6 (all_cons ok_ent7 (all_cons ok_ent8 (all_cons ok_ent9 (all_cons ok_ent10 (all_cons ok_ent11 (all_cons ok_ent12 (all_cons ok_ent13 (all_cons ok_ent14 (all_cons ok_ent15 (all_cons ok_ent16 (all_cons ok_ent17 (all_cons ok_ent18 (all_cons ok_ent19 (all_cons ok_ent20 (all_cons ok_ent21 (all_cons ok_ent22 (all_cons ok_ent23 (all_cons ok_ent24 (all_cons ok_ent25 (all_cons ok_ent26 (all_cons ok_ent27 (all_cons ok_ent28 (all_cons ok_ent29 (all_cons ok_ent30 (all_cons ok_ent31 (all_cons ok_ent32 (all_cons ok_ent33 (all_cons ok_ent34 (all_cons ok_ent35 (all_cons ok_ent36 (all_cons ok_ent37 (all_cons ok_ent38 (all_cons ok_ent39 (all_cons ok_ent40 (all_cons ok_ent41 (all_cons ok_ent42 (all_cons ok_ent43 (all_cons ok_ent44 (all_cons ok_ent45 (all_cons ok_ent46 (all_cons ok_ent47 (all_cons ok_ent48 (all_cons ok_ent49 (all_cons ok_ent50 (all_cons ok_ent51 (all_cons ok_ent52 (all_cons ok_ent53 (all_cons ok_ent54 (all_cons ok_ent55 (all_cons ok_ent56 (all_cons ok_ent57 (all_cons ok_ent58 (all_cons ok_ent59 (all_cons ok_ent60 (all_cons ok_ent61 (all_cons ok_ent62 (all_cons ok_ent63 (all_cons ok_ent64 (all_cons ok_ent65 (all_cons ok_ent66 (all_cons ok_ent67 (all_cons ok_ent68 (all_cons ok_ent69 (all_cons ok_ent70 (all_cons ok_ent71 (all_cons ok_ent72 (all_cons ok_ent73 (all_cons ok_ent74 (all_cons ok_ent75 (all_cons ok_ent76 (all_cons ok_ent77 (all_cons ok_ent78 (all_cons ok_ent79 (all_cons ok_ent80 (all_cons ok_ent81 (all_cons ok_ent82 (all_cons ok_ent83 (all_cons ok_ent84 (all_cons ok_ent85 (all_cons ok_ent86 (all_cons ok_ent87 (all_cons ok_ent88 (all_cons ok_ent89 (all_cons ok_ent90 (all_cons ok_ent91 (all_cons ok_ent92 (all_cons ok_ent93 (all_cons ok_ent94 (all_cons ok_ent95 (all_cons ok_ent96 (all_cons ok_ent97 (all_cons ok_ent98 (all_cons ok_ent99 (all_cons ok_ent100 (all_cons ok_ent101 (all_cons ok_ent102 (all_cons ok_ent103 (all_cons ok_ent104 (all_cons ok_ent105 (all_cons ok_ent106 (all_cons ok_ent107 (all_cons ok_ent108 (all_cons ok_ent109 (all_cons ok_ent110 (all_cons ok_ent111 (all_cons ok_ent112 (all_cons ok_ent113 (all_cons ok_ent114 (all_cons ok_ent115 (all_cons ok_ent116 (all_cons ok_ent117 (all_cons ok_ent119 (all_cons ok_ent120 (all_cons ok_ent121 (all_cons ok_ent122 (all_cons ok_ent123 (all_cons ok_ent124 (all_cons ok_ent125 (all_cons ok_ent126 (all_cons ok_ent127 (all_cons ok_ent128 (all_cons ok_ent129 (all_cons ok_ent130 (all_cons ok_ent131 (all_cons ok_ent132 (all_cons ok_ent133 (all_cons ok_ent134 (all_cons ok_ent135 (all_cons ok_ent136 (all_cons ok_ent137 (all_cons ok_ent138 (all_cons ok_ent139 (all_cons ok_ent140 (all_cons ok_ent141 (all_cons ok_ent142 (all_cons ok_ent143 (all_cons ok_ent144 (all_cons ok_ent145 (all_cons ok_ent146 (all_cons ok_ent147 (all_cons ok_ent148 (all_cons ok_ent149 (all_cons ok_ent150 (all_cons ok_ent151 (all_cons ok_ent152 (all_cons ok_ent153 (all_cons ok_ent154 (all_cons ok_ent155 (all_cons ok_ent156 (all_cons ok_ent157 (all_cons ok_ent158 (all_cons ok_ent159 (all_cons ok_ent160 (all_cons ok_ent161 (all_cons ok_ent162 (all_cons ok_ent163 (all_cons ok_ent164 (all_cons ok_ent165 (all_cons ok_ent166 (all_cons ok_ent167 (all_cons ok_ent168 (all_cons ok_ent169 (all_cons ok_ent170 (all_cons ok_ent171 (all_cons ok_ent172 (all_cons ok_ent173 (all_cons ok_ent174 (all_cons ok_ent175 (all_cons ok_ent176 (all_cons ok_ent177 (all_cons ok_ent178 (all_cons ok_ent179 (all_cons ok_ent180 (all_cons ok_ent181 (all_cons ok_ent182 (all_cons ok_ent183 (all_cons ok_ent184 (all_cons ok_ent185 (all_cons ok_ent186 (all_cons ok_ent187 (all_cons ok_ent188 (all_cons ok_ent189 (all_cons ok_ent190 (all_cons ok_ent191 (all_cons ok_ent192 (all_cons ok_ent193 (all_cons ok_ent194 (all_cons ok_ent195 (all_cons ok_ent196 (all_cons ok_ent197 (all_cons ok_ent198 (all_cons ok_ent199 (all_cons ok_ent200 (all_cons ok_ent201 (all_cons ok_ent202 (all_cons ok_ent203 (all_cons ok_ent204 (all_cons ok_ent205 (all_cons ok_ent206 (all_cons ok_ent207 (all_cons ok_ent208 (all_cons ok_ent209 (all_cons ok_ent210 (all_cons ok_ent211 (all_cons ok_ent212 (all_cons ok_ent213 (all_cons ok_ent214 (all_cons ok_ent215 (all_cons ok_ent216 (all_cons ok_ent217 (all_cons ok_ent218 (all_cons ok_ent219 (all_cons ok_ent220 (all_cons ok_ent221 (all_cons ok_ent222 (all_cons ok_ent223 (all_cons ok_ent224 (all_cons ok_ent225 (all_cons ok_ent226 (all_cons ok_ent227 (all_cons ok_ent228 (all_cons ok_ent229 (all_cons ok_ent230 (all_cons ok_ent231 (all_cons ok_ent232 (all_cons ok_ent233 (all_cons ok_ent234 (all_cons ok_ent235 (all_cons ok_ent236 (all_cons ok_ent237 (all_cons ok_ent238 (all_cons ok_ent239 (all_cons ok_ent240 all_nil))))))))))))))))))))))))))))))))))))))))))))))))))))))))))))))))))))))))))))))))))))))))))))))))))))))))))))))))))))))))))))))))))))))))))))))))))))))))))))))))))))))))))))))))))))))))))))))))))))))))))))))))))))))))))))))))))))))))))))))))⟩
theorem ok_ent118 : EntOk Tryz.prog ent118 := .of W5 run_ent118
theorem ok_ent241 : EntOk Tryz.prog ent241 := .of W5 run_ent241
theorem W6 : World0 Tryz.prog O6 := ⟨typesOk, mixed, noNum, extOk, dqOk,
  caL_ok (all_cons ok_ent0 (all_cons ok_ent1 (all_cons ok_ent2 (all_cons ok_ent3 (all_cons ok_ent4 (all_cons ok_ent5 (all_cons ok_ent6 (all_cons ok_ent7 (all_cons ok_ent8 (all_cons ok_ent9 (all_cons ok_ent10 (all_cons ok_ent11 (all_cons ok_ent12 (all_cons ok_ent13 (all_cons ok_ent14 (all_cons ok_ent15 (all_cons ok_ent16 (all_cons ok_ent17 (all_cons ok_ent18 (all_cons ok_ent19 (all_cons ok_ent20 (all_cons ok_ent21 (all_cons ok_ent22 (all_cons ok_ent23 (all_cons ok_ent24 (all_cons ok_ent25 (all_cons ok_ent26 (all_cons ok_ent27 (all_cons ok_ent28 (all_cons ok_ent29 (all_cons ok_ent30 (all_cons ok_ent31 (all_cons ok_ent32 (all_cons ok_ent33 (all_cons ok_ent34 (all_cons ok_ent35 (all_cons ok_ent36 (all_cons ok_ent37 (all_cons ok_ent38 (all_cons ok_ent39 (all_cons ok_ent40 (all_cons ok_ent41 (all_cons ok_ent42 (all_cons ok_ent43 (all_cons ok_ent44 (all_cons ok_ent45 (all_cons ok_ent46 (all_cons ok_ent47 (all_cons ok_ent48 (all_cons ok_ent49 (all_cons ok_ent50 (all_cons ok_ent51 (all_cons ok_ent52 (all_cons ok_ent53 (all_cons ok_ent54 (all_cons ok_ent55 (all_cons ok_ent56 (all_cons ok_ent57 (all_cons ok_ent58 (all_cons ok_ent59 (all_cons ok_ent60 (all_cons ok_ent61 (all_cons ok_ent62 (all_cons ok_ent63 (all_cons ok_ent64 (all_cons ok_ent65 (all_cons ok_ent66 (all_cons ok_ent67 (all_cons ok_ent68 (all_cons ok_ent69 (all_cons ok_ent70 (all_cons ok_ent71 (all_cons ok_ent72 (all_cons ok_ent73 (all_cons ok_ent74 (all_cons ok_ent75 (all_cons ok_ent76 (all_cons ok_ent77 (all_cons ok_ent78 (all_cons ok_ent79 (all_cons ok_ent80 (all_cons ok_ent81 (all_cons ok_ent82 (all_cons ok_ent83 (all_cons ok_ent84 (all_cons ok_ent85 (all_cons ok_ent86 (all_cons ok_ent87 (all_cons ok_ent88 (all_cons ok_ent89 (all_cons ok_ent90 (all_cons ok_ent91 (all_cons ok_ent92 (all_cons ok_ent93 (all_cons ok_ent94 (all_cons ok_ent95 (all_cons ok_ent96 (all_cons ok_ent97 (all_cons ok_ent98 (all_cons ok_ent99 (all_cons ok_ent100 (all_cons ok_ent101 (all_cons ok_ent102 (all_cons ok_ent103 (all_cons ok_ent104 (all_cons ok_ent105 (all_cons ok_ent106 (all_cons ok_ent107 (all_cons ok_ent108 (all_cons ok_ent109 (all_cons ok_ent110 (all_cons ok_ent111 (all_cons ok_ent112 (all_cons ok_ent113 (all_cons ok_ent114 (all_cons ok_ent115 (all_cons ok_ent116 (all_cons ok_ent117 (all_cons ok_ent118 (all_cons ok_ent119 (all_cons ok_ent120 (all_cons ok_ent121 (all_cons ok_ent122 (all_cons ok_ent123 (all_cons ok_ent124 (all_cons ok_ent125 (all_cons ok_ent126 (all_cons ok_ent127 (all_cons ok_ent128 (all_cons ok_ent129 (all_cons ok_ent130 (all_cons ok_ent131 (all_cons ok_ent132 (all_cons ok_ent133 (all_cons ok_ent134 (all_cons ok_ent135 (all_cons ok_ent136 (all_cons ok_ent137 (all_cons ok_ent138 (all_cons ok_ent139 (all_cons ok_ent140 (all_cons ok_ent141 (all_cons ok_ent142 (all_cons ok_ent143 (all_cons ok_ent144 (all_cons ok_ent145 (all_cons ok_ent146 (all_cons ok_ent147 (all_cons ok_ent148 (all_cons ok_ent149 (all_cons ok_ent150 (all_cons ok_ent151 (all_cons ok_ent152 (all_cons ok_ent153 (all_cons ok_ent154 (all_cons ok_ent155 (all_cons ok_ent156 (all_cons ok_ent157 (all_cons ok_ent158 (all_cons ok_ent159 (all_cons ok_ent160 (all_cons ok_ent161 (all_cons ok_ent162 (all_cons ok_ent163 (all_cons ok_ent164 (all_cons ok_ent165 (all_cons ok_ent166 (all_cons ok_ent167 (all_cons ok_ent168 (all_cons ok_ent169 (all_cons ok_ent170 (all_cons ok_ent171 (all_cons ok_ent172 (all_cons ok_ent173 (all_cons ok_ent174 (all_cons ok_ent175 (all_cons ok_ent176 (all_cons ok_ent177 (all_cons ok_ent178 (all_cons ok_ent179 (all_cons ok_ent180 (all_cons ok_ent181 (all_cons ok_ent182 (all_cons ok_ent183 (all_cons ok_ent184 (all_cons ok_ent185 (all_cons ok_ent186 (all_cons ok_ent187 (all_cons ok_ent188 (all_cons ok_ent189 (all_cons ok_ent190 (all_cons ok_ent191 (all_cons ok_ent192 (all_cons ok_ent193 (all_cons ok_ent194 (all_cons ok_ent195 (all_cons ok_ent196 (all_cons ok_ent197 (all_cons ok_ent198 (all_cons ok_ent199 (all_cons ok_ent200 (all_cons ok_ent201 (all_cons ok_ent202 (all_cons ok_ent203 (all_cons ok_ent204 (all_cons ok_ent205 (all_cons ok_ent206 (all_cons ok_ent207 (all_cons ok_ent208 (all_cons ok_ent209 (all_cons ok_ent210 (all_cons ok_ent211 (all_cons ok_ent212 (all_cons ok_ent213 (all_cons ok_ent214 (all_cons ok_ent215 (all_cons ok_ent216 (all_cons ok_ent217 (all_cons ok_ent218 (all_cons ok_ent219 (all_cons ok_ent220 (all_cons ok_ent221 (all_cons ok_ent222 (all_cons ok_ent223 (all_cons ok_ent224 (all_cons ok_ent225 (all_cons ok_ent226 (all_cons ok_ent227 (all_cons ok_ent228 (all_cons ok_ent229 (all_cons ok_ent230 (all_cons ok_ent231 (all_cons ok_ent232 (all_cons ok_ent233 (all_cons ok_ent234 (all_cons ok_ent235 (all_cons ok_ent236 (all_cons ok_ent237 (all_cons ok_ent238 (all_cons ok_ent239 (all_cons ok_ent240 (all_cons ok_ent241 all_nil))))))))))))))))))))))))))))))))))))))))))))))))))))))))))))))))))))))))))))))))))))))))))))))))))))))))))))))))))))))))))))))))))))))))))))))))))))))))))))))))))))))))))))))))))))))))))))))))))))))))))))))))))))))))))))))))))))))))))))))))))⟩
/-! ## the table of spaces, as the program's variable holds it -/
def spaceCells : List Int := (List.range 256).map fun k => if k = 9 ∨ k = 10 ∨ k = 11 ∨ k = 12 ∨ k = 13 ∨ k = 32 then 1 else 0
/-- the variable's block -/
def SpaceIs (w : World) : Prop := ∃ cs : Array Value, w.heap[3]? = some (.cells cs 385) ∧ cs.toList = spaceCells.map fun z => Value.int .u8 z

def vrB (v : V) (z : Int) : Bool := match v with | .int .u8 n => beqI n z | _ => false
theorem space_cells : (((List.range 256).zip spaceCells).all fun p => match asciiObj.2 with | .cells _ _ dz m _ _ _ => vrB (cellAt dz m p.1) p.2 | _ => false) = true := by kernel_rfl

theorem pre0 {w : World} (hs : SpaceIs w) : Pre Tryz.prog (fun g => if g < 1000 then some ⟨g, 0, 256, 0⟩ else none) H0 w := by
  obtain ⟨cs, hb, hcs⟩ := hs
  have hget : ∀ o x, H0.get o = some x → o = 3 ∧ x = asciiObj.2 := by
    intro o x hx
    have hx' : (putObjs [asciiObj] .leaf).get o = some x := hx
    rcases putObjs_get hx' with h | h
    · rw [T.get_leaf] at h; cases h
    · have := List.mem_singleton.1 h
      have e : asciiObj = (3, asciiObj.2) := rfl
      rw [e] at this
      cases this
      exact ⟨rfl, rfl⟩
  have hlen : cs.size = 256 := by
    have := congrArg List.length hcs
    simpa [spaceCells] using this
  refine ⟨⟨fun o x hx => ?_, fun o x r o' x' r' hx _ hx' _ _ => .inl ((hget o x hx).1.trans (hget o' x' hx').1.symm)⟩, fun o ho => ?_, fun g hg => ⟨⟨g, 0, 256, 0⟩, if_pos hg, rfl, rfl⟩⟩
  · obtain ⟨rfl, rfl⟩ := hget o x hx
    refine ⟨⟨3, 0, 256, 0⟩, rfl, cs, (0, 0), hb, (show 0 + 256 = cs.size by omega), Nat.le_refl _, fun i hi => ?_, (fun h => (by cases h)), (fun h => (by cases h)), fun _ => rfl⟩
    have hz : spaceCells.length = 256 := by simp [spaceCells]
    have h1 : cs[0 + i]? = some (.int .u8 (spaceCells[i]'(by omega))) := by
      rw [Nat.zero_add, ← Array.getElem?_toList, hcs]
      simp [List.getElem?_eq_getElem (show i < spaceCells.length by omega)]
    refine ⟨_, h1, ?_⟩
    have hm : (i, spaceCells[i]'(by omega)) ∈ (List.range 256).zip spaceCells := by
      have : ((List.range 256).zip spaceCells)[i]? = some (i, spaceCells[i]'(by omega)) := by
        rw [List.getElem?_zip_eq_some]
        exact ⟨by simp [hi], List.getElem?_eq_getElem (by omega)⟩
      exact List.mem_of_getElem? this
    have hc := List.all_eq_true.1 space_cells _ hm
    simp only [asciiObj] at hc
    unfold vrB at hc
    split at hc
    · rename_i n heq
      rw [beqI_eq] at hc
      have hn : n = spaceCells[i]'(by omega) := by simpa using hc
      rw [heq, hn]
      rfl
    · cases hc
  · exact if_neg (by have : H0.next = 1000 := rfl; omega)

theorem awake_any (w : World) (hs : SpaceIs w) : Calls Tryz.prog 4 #[] w fun e w' => e = .returned (.bool true) ∧ Below w.heap.size w w' := by
  have hex := exec_ok W6 8000
  obtain ⟨h', hout⟩ : ∃ h', exec Tryz.prog O6 8000 (.call 4 [] H0) = [.val (.bool true) h'] := by
    have := runMain
    unfold isTrue at this
    split at this
    · rename_i h heq; exact ⟨h, heq⟩
    · cases this
  have hc := hex.call 4 [] H0 (by rw [hout]; exact good_val _ _)
  rw [hout] at hc
  obtain ⟨nx, w1, h1, h2, h3⟩ := hc _ w #[] (pre0 hs) rfl
  obtain ⟨rfl, rfl⟩ := h3 ⟨_, _, Tryz.func4, rfl⟩
  have h2' : CallsIn (Fr none) 0 Tryz.prog 4 #[] w1 (RetOk Tryz.prog _ H0 w1 [.val (.bool true) h']) := h2
  refine Calls.mono (callsIn_wide.1 (show CallsIn Fence.wide 0 Tryz.prog 4 #[] w1 _ from h2')) ?_
  rintro e w' ⟨v, hh, x, ρ', hm, rfl, hv, hp⟩
  simp at hm
  obtain ⟨rfl, rfl⟩ := hm
  rw [show x = .bool true from hv]
  refine ⟨rfl, hp.fr.os, hp.fr.tape, hp.fr.output, hp.fr.size, fun k hk => hp.fr.block k hk ?_⟩
  rintro ⟨o, y, r, hy, _, hmay, _, _⟩
  rw [H.may_iff] at hmay
  have e1 : H0.lim = 1000 := rfl
  have e2 : H0.exc = 1000 := rfl
  have := (pre0 hs).ne_next hy
  have e3 : H0.next = 1000 := rfl
  omega
end Go.Proofs.YtkapnepkkeaiaaaGreatDoor

/- What the laws share, part 11. No condition. -/
import Derived.Test.YtkieffpjjfebjaaGreatDoorY10
namespace Go.Proofs.YtkieffpjjfebjaaGreatDoor.Ord
open Go
set_option maxRecDepth 100000
def irc_tdrf_New : IFn := ⟨55,
 (.seq (.region [(jb 1 3 0), (jo 2 (.mov (.const (.pointer none)))), (jk 3 0)])
 (.seq (.seq (.region [(jl 7 1), (jo 8 (.bin .lss (.tmp 7) (.const (.int .i64 1)))), (jm 9 8), (jz 9 (jl 10 1)), (jz 9 (jo 11 (.bin .gtr (.tmp 10) (.const (.int .i64 16))))),
 (jO 12 9 11)])
 (.cond (.tmp 12)
 (.seq (.region [(jo 2 (.mov (.const (.pointer none)))), (jk 3 54)])
 .ret)
 .skip))
 (.cut (.draw (.f (jl 13 1)
 (.f (jl 15 1)
 (.f (jo 17 (.ldN 3 (.global 0)))
 (.both (.m (jo 14 (.mk 3 1 8 [(.int .i64 0)] (.tmp 13) (.tmp 13)))
 (.m (jo 16 (.mk 23 1 24 [(.slice none 0 0)] (.tmp 15) (.tmp 15)))
 (.f (jo 18 (.bld [(.int .i64 0), (.int .i64 0), (.slice none 0 0), (.slice none 0 0), (.slice none 0 0), (.slice none 0 0), (.slice none 0 0), (.slice none 0 0), (.slice none 0 0), (.slice none 0 0), (.slice none 0 0), (.slice none 0 0), (.slice none 0 0), (.slice none 0 0), (.slice none 0 0), (.slice none 0 0), (.slice none 0 0), (.slice none 0 0), (.slice none 0 0), (.slice none 0 0), (.slice none 0 0), (.slice none 0 0), (.slice none 0 0), (.slice none 0 0), (.slice none 0 0), (.slice none 0 0), (.slice none 0 0), (.slice none 0 0), (.slice none 0 0), (.slice none 0 0), (.slice none 0 0), (.slice none 0 0), (.slice none 0 0), (.slice none 0 0), (.slice none 0 0), (.slice none 0 0), (.slice none 0 0), (.slice none 0 0), (.slice none 0 0), (.slice none 0 0), (.slice none 0 0), (.slice none 0 0), (.slice none 0 0), (.slice none 0 0), (.slice none 0 0), (.slice none 0 0), (.slice none 0 0), (.slice none 0 0), (.slice none 0 0), (.slice none 0 0), (.slice none 0 0), (.slice none 0 0), (.slice none 0 0), (.slice none 0 0), (.slice none 0 0), (.slice none 0 0), (.slice none 0 0), (.slice none 0 0), (.slice none 0 0), (.slice none 0 0), (.slice none 0 0), (.slice none 0 0), (.slice none 0 0), (.slice none 0 0), (.slice none 0 0), (.slice none 0 0), (.slice none 0 0), (.slice none 0 0), (.slice none 0 0), (.slice none 0 0), (.slice none 0 0), (.slice none 0 0), (.slice none 0 0), (.slice none 0 0), (.slice none 0 0), (.slice none 0 0), (.slice none 0 0), (.slice none 0 0), (.slice none 0 0), (.slice none 0 0), (.slice none 0 0), (.slice none 0 0), (.slice none 0 0), (.slice none 0 0), (.slice none 0 0), (.slice none 0 0), (.slice none 0 0), (.slice none 0 0), (.slice none 0 0), (.slice none 0 0), (.slice none 0 0), (.slice none 0 0), (.slice none 0 0), (.slice none 0 0), (.slice none 0 0), (.slice none 0 0), (.slice none 0 0), (.slice none 0 0), (.slice none 0 0), (.slice none 0 0), (.slice none 0 0), (.slice none 0 0), (.slice none 0 0), (.slice none 0 0), (.slice none 0 0), (.slice none 0 0), (.slice none 0 0), (.slice none 0 0), (.slice none 0 0), (.slice none 0 0), (.slice none 0 0), (.slice none 0 0), (.slice none 0 0), (.slice none 0 0), (.slice none 0 0), (.slice none 0 0), (.slice none 0 0), (.slice none 0 0), (.slice none 0 0), (.slice none 0 0), (.slice none 0 0), (.slice none 0 0), (.slice none 0 0), (.slice none 0 0), (.slice none 0 0), (.slice none 0 0), (.slice none 0 0), (.slice none 0 0), (.slice none 0 0), (.slice none 0 0), (.slice none 0 0), (.slice none 0 0), (.slice none 0 0), (.slice none 0 0), (.slice none 0 0), (.slice none 0 0), (.slice none 0 0), (.slice none 0 0), (.slice none 0 0), (.slice none 0 0), (.slice none 0 0), (.slice none 0 0), (.slice none 0 0), (.slice none 0 0), (.slice none 0 0), (.slice none 0 0), (.slice none 0 0), (.slice none 0 0), (.slice none 0 0), (.slice none 0 0), (.slice none 0 0), (.slice none 0 0), (.slice none 0 0), (.slice none 0 0), (.slice none 0 0), (.slice none 0 0), (.slice none 0 0), (.slice none 0 0), (.slice none 0 0), (.slice none 0 0), (.slice none 0 0), (.slice none 0 0), (.slice none 0 0), (.slice none 0 0), (.slice none 0 0), (.slice none 0 0), (.slice none 0 0), (.slice none 0 0), (.slice none 0 0), (.slice none 0 0), (.slice none 0 0), (.slice none 0 0), (.slice none 0 0), (.slice none 0 0), (.slice none 0 0), (.slice none 0 0), (.slice none 0 0), (.slice none 0 0), (.slice none 0 0), (.slice none 0 0), (.slice none 0 0), (.slice none 0 0), (.slice none 0 0), (.slice none 0 0), (.slice none 0 0), (.slice none 0 0), (.slice none 0 0), (.slice none 0 0), (.slice none 0 0), (.slice none 0 0), (.slice none 0 0), (.slice none 0 0), (.slice none 0 0), (.slice none 0 0), (.slice none 0 0), (.slice none 0 0), (.slice none 0 0), (.slice none 0 0), (.slice none 0 0), (.slice none 0 0), (.slice none 0 0), (.slice none 0 0), (.slice none 0 0), (.slice none 0 0), (.slice none 0 0), (.slice none 0 0), (.slice none 0 0), (.slice none 0 0), (.slice none 0 0), (.slice none 0 0), (.slice none 0 0), (.slice none 0 0), (.slice none 0 0), (.slice none 0 0), (.slice none 0 0), (.slice none 0 0), (.slice none 0 0), (.slice none 0 0), (.slice none 0 0), (.slice none 0 0), (.slice none 0 0), (.slice none 0 0), (.slice none 0 0), (.slice none 0 0), (.slice none 0 0), (.slice none 0 0), (.slice none 0 0), (.slice none 0 0), (.slice none 0 0), (.slice none 0 0), (.slice none 0 0), (.slice none 0 0), (.slice none 0 0), (.slice none 0 0), (.slice none 0 0), (.slice none 0 0), (.slice none 0 0), (.slice none 0 0), (.slice none 0 0), (.slice none 0 0), (.slice none 0 0), (.slice none 0 0), (.slice none 0 0), (.slice none 0 0), (.slice none 0 0), (.slice none 0 0), (.slice none 0 0), (.slice none 0 0), (.slice none 0 0), (.slice none 0 0), (.slice none 0 0), (.slice none 0 0), (.slice none 0 0), (.slice none 0 0), (.slice none 0 0), (.slice none 0 0), (.slice none 0 0), (.slice none 0 0), (.slice none 0 0), (.slice none 0 0), (.slice none 0 0), (.int .i64 0), (.int .i64 0), (.int .i64 0)] [(2, 1, (.tmp 14)), (4, 1, (.tmp 16)), (261, 3, (.tmp 17))]))
 (.m (jb 19 151 18)
 (.f (jm 4 19)
 .done)))))
 (.m (jo 16 (.mk 23 1 24 [(.slice none 0 0)] (.tmp 15) (.tmp 15)))
 (.m (jo 14 (.mk 3 1 8 [(.int .i64 0)] (.tmp 13) (.tmp 13)))
 (.f (jo 18 (.bld [(.int .i64 0), (.int .i64 0), (.slice none 0 0), (.slice none 0 0), (.slice none 0 0), (.slice none 0 0), (.slice none 0 0), (.slice none 0 0), (.slice none 0 0), (.slice none 0 0), (.slice none 0 0), (.slice none 0 0), (.slice none 0 0), (.slice none 0 0), (.slice none 0 0), (.slice none 0 0), (.slice none 0 0), (.slice none 0 0), (.slice none 0 0), (.slice none 0 0), (.slice none 0 0), (.slice none 0 0), (.slice none 0 0), (.slice none 0 0), (.slice none 0 0), (.slice none 0 0), (.slice none 0 0), (.slice none 0 0), (.slice none 0 0), (.slice none 0 0), (.slice none 0 0), (.slice none 0 0), (.slice none 0 0), (.slice none 0 0), (.slice none 0 0), (.slice none 0 0), (.slice none 0 0), (.slice none 0 0), (.slice none 0 0), (.slice none 0 0), (.slice none 0 0), (.slice none 0 0), (.slice none 0 0), (.slice none 0 0), (.slice none 0 0), (.slice none 0 0), (.slice none 0 0), (.slice none 0 0), (.slice none 0 0), (.slice none 0 0), (.slice none 0 0), (.slice none 0 0), (.slice none 0 0), (.slice none 0 0), (.slice none 0 0), (.slice none 0 0), (.slice none 0 0), (.slice none 0 0), (.slice none 0 0), (.slice none 0 0), (.slice none 0 0), (.slice none 0 0), (.slice none 0 0), (.slice none 0 0), (.slice none 0 0), (.slice none 0 0), (.slice none 0 0), (.slice none 0 0), (.slice none 0 0), (.slice none 0 0), (.slice none 0 0), (.slice none 0 0), (.slice none 0 0), (.slice none 0 0), (.slice none 0 0), (.slice none 0 0), (.slice none 0 0), (.slice none 0 0), (.slice none 0 0), (.slice none 0 0), (.slice none 0 0), (.slice none 0 0), (.slice none 0 0), (.slice none 0 0), (.slice none 0 0), (.slice none 0 0), (.slice none 0 0), (.slice none 0 0), (.slice none 0 0), (.slice none 0 0), (.slice none 0 0), (.slice none 0 0), (.slice none 0 0), (.slice none 0 0), (.slice none 0 0), (.slice none 0 0), (.slice none 0 0), (.slice none 0 0), (.slice none 0 0), (.slice none 0 0), (.slice none 0 0), (.slice none 0 0), (.slice none 0 0), (.slice none 0 0), (.slice none 0 0), (.slice none 0 0), (.slice none 0 0), (.slice none 0 0), (.slice none 0 0), (.slice none 0 0), (.slice none 0 0), (.slice none 0 0), (.slice none 0 0), (.slice none 0 0), (.slice none 0 0), (.slice none 0 0), (.slice none 0 0), (.slice none 0 0), (.slice none 0 0), (.slice none 0 0), (.slice none 0 0), (.slice none 0 0), (.slice none 0 0), (.slice none 0 0), (.slice none 0 0), (.slice none 0 0), (.slice none 0 0), (.slice none 0 0), (.slice none 0 0), (.slice none 0 0), (.slice none 0 0), (.slice none 0 0), (.slice none 0 0), (.slice none 0 0), (.slice none 0 0), (.slice none 0 0), (.slice none 0 0), (.slice none 0 0), (.slice none 0 0), (.slice none 0 0), (.slice none 0 0), (.slice none 0 0), (.slice none 0 0), (.slice none 0 0), (.slice none 0 0), (.slice none 0 0), (.slice none 0 0), (.slice none 0 0), (.slice none 0 0), (.slice none 0 0), (.slice none 0 0), (.slice none 0 0), (.slice none 0 0), (.slice none 0 0), (.slice none 0 0), (.slice none 0 0), (.slice none 0 0), (.slice none 0 0), (.slice none 0 0), (.slice none 0 0), (.slice none 0 0), (.slice none 0 0), (.slice none 0 0), (.slice none 0 0), (.slice none 0 0), (.slice none 0 0), (.slice none 0 0), (.slice none 0 0), (.slice none 0 0), (.slice none 0 0), (.slice none 0 0), (.slice none 0 0), (.slice none 0 0), (.slice none 0 0), (.slice none 0 0), (.slice none 0 0), (.slice none 0 0), (.slice none 0 0), (.slice none 0 0), (.slice none 0 0), (.slice none 0 0), (.slice none 0 0), (.slice none 0 0), (.slice none 0 0), (.slice none 0 0), (.slice none 0 0), (.slice none 0 0), (.slice none 0 0), (.slice none 0 0), (.slice none 0 0), (.slice none 0 0), (.slice none 0 0), (.slice none 0 0), (.slice none 0 0), (.slice none 0 0), (.slice none 0 0), (.slice none 0 0), (.slice none 0 0), (.slice none 0 0), (.slice none 0 0), (.slice none 0 0), (.slice none 0 0), (.slice none 0 0), (.slice none 0 0), (.slice none 0 0), (.slice none 0 0), (.slice none 0 0), (.slice none 0 0), (.slice none 0 0), (.slice none 0 0), (.slice none 0 0), (.slice none 0 0), (.slice none 0 0), (.slice none 0 0), (.slice none 0 0), (.slice none 0 0), (.slice none 0 0), (.slice none 0 0), (.slice none 0 0), (.slice none 0 0), (.slice none 0 0), (.slice none 0 0), (.slice none 0 0), (.slice none 0 0), (.slice none 0 0), (.slice none 0 0), (.slice none 0 0), (.slice none 0 0), (.slice none 0 0), (.slice none 0 0), (.slice none 0 0), (.slice none 0 0), (.slice none 0 0), (.slice none 0 0), (.slice none 0 0), (.slice none 0 0), (.slice none 0 0), (.slice none 0 0), (.slice none 0 0), (.slice none 0 0), (.slice none 0 0), (.slice none 0 0), (.slice none 0 0), (.slice none 0 0), (.slice none 0 0), (.slice none 0 0), (.slice none 0 0), (.slice none 0 0), (.slice none 0 0), (.slice none 0 0), (.slice none 0 0), (.slice none 0 0), (.slice none 0 0), (.slice none 0 0), (.slice none 0 0), (.slice none 0 0), (.slice none 0 0), (.slice none 0 0), (.slice none 0 0), (.slice none 0 0), (.slice none 0 0), (.int .i64 0), (.int .i64 0), (.int .i64 0)] [(2, 1, (.tmp 14)), (4, 1, (.tmp 16)), (261, 3, (.tmp 17))]))
 (.m (jb 19 151 18)
 (.f (jm 4 19)
 .done))))))))))
 (.seq (.seq (.region [(jl 20 1), (jk 21 0)])
 (.block 0
 (.loop 34357641216
 (.seq (.region [(jw 22 21 20)])
 (.seq (.cond (.tmp 22)
 .skip
 (.exit 0))
 (.seq (.block 1
 (.draw (.f (jm 23 4)
 (.f (jm 24 4)
 (.f (jn 25 24)
 (.f (jf 26 3 25)
 (.f (jl 27 26)
 (.f (jl 28 1)
 (.m (jo 29 (.mk 3 1 8 [(.int .i64 0)] (.tmp 28) (.tmp 28)))
 (.m (jo 30 (.blds 23 1 [(.slice none 0 0)] [(0, 1, (.tmp 29))]))
 (.m (jo 31 (.app 23 1 24 [(.slice none 0 0)] (.tmp 27) (.tmp 30)))
 (.f (jn 32 23)
 (.f (jf 33 3 32)
 (.m (js 33 31)
 .done))))))))))))))
 (.region [(ja 34 21 1), (jm 21 34)])))))))
 (.seq (.seq (.region [(jk 35 0)])
 (.block 2
 (.loop 18014364149743712
 (.seq (.region [(jo 36 (.bin .lss (.tmp 35) (.const (.int .i64 64))))])
 (.seq (.cond (.tmp 36)
 .skip
 (.exit 2))
 (.seq (.block 3
 (.seq (.region [(jm 37 35), (jm 5 37)])
 (.seq (.region [(jo 38 (.mkf 84 [(.tmp 1)])), (jm 6 38)])
 (.draw (.f (jm 39 4)
 (.f (jm 40 5)
 (.f (jm 41 6)
 (.f (jm 43 6)
 (.f (jm 45 6)
 (.f (jm 47 6)
 (.f (jn 50 39)
 (.f (jf 51 5 50)
 (.m (jo 42 (.callv (.tmp 41) []))
 (.m (jo 44 (.callv (.tmp 43) []))
 (.m (jo 46 (.callv (.tmp 45) []))
 (.m (jo 48 (.callv (.tmp 47) []))
 (.f (jo 49 (.bld [(.slice none 0 0), (.slice none 0 0), (.slice none 0 0), (.slice none 0 0)] [(0, 1, (.tmp 42)), (1, 1, (.tmp 44)), (2, 1, (.tmp 46)), (3, 1, (.tmp 48))]))
 (.f (jo 52 (.ixa 64 4 (.tmp 51) (.tmp 40)))
 (.m (jS 4 52 49)
 .done)))))))))))))))))))
 (.region [(ja 53 35 1), (jm 35 53)])))))))
 (.seq (.region [(jm 54 4), (jm 2 54), (jk 3 0)])
 .ret)))))),
 [.tmp 2, .tmp 3]⟩
theorem lowc_tdrf_New : lowFn Tryz.prog movers 55 = some ⟨irc_tdrf_New.n, strip irc_tdrf_New.body, irc_tdrf_New.res⟩ := by kernel_rfl
end Go.Proofs.YtkieffpjjfebjaaGreatDoor.Ord
namespace Go.Proofs.YtkieffpjjfebjaaGreatDoor
open Go
set_option maxRecDepth 100000
def ir_law26_ExploreCounts : IFn := ⟨99,
 (.seq (.region [(jo 4 (.mov (.const (.bool false))))])
 (.seq (.region [(jm 16 0), (jo 17 (.call 12 [(.tmp 16), (.const (.int .i64 5))])), (jm 18 1), (jo 19 (.call 12 [(.tmp 18), (.const (.int .i64 5))])), (jm 5 17),
 (jm 6 19)])
 (.seq (.region [(jo 20 (.call 23 [(.const (.int .i64 0)), (.const (.int .i64 1))])), (jo 7 (.new 32 (.agg #[.int .i64 0, .int .i64 0, .int .i64 0, .int .i64 0, .int .i64 0, .int .i64 0, .int .i64 0, .int .i64 0, .int .i64 0, .int .i64 0, .int .i64 0, .int .i64 0, .bool false, .slice none 0 0, .slice none 0 0, .slice none 0 0]))),
 (jS 16 7 20)])
 (.seq (.region [(jo 21 (.blds 66 2 [(.slice none 0 0), (.slice none 0 0)] [(0, 1, (.const (.slice none 0 0))), (1, 1, (.const (.slice none 0 0)))])), (jf 22 14 7),
 (js 22 21)])
 (.seq (.seq (.region [(jk 8 0)])
 (.block 0
 (.loop 274869518592
 (.seq (.seq (.region [(jm 23 8), (jm 24 5), (jw 25 23 24)])
 (.cond (.tmp 25)
 .skip
 (.exit 0)))
 (.seq (.block 1
 (.draw (.f (jf 28 14 7)
 (.f (jf 30 14 7)
 (.f (jl 31 30)
 (.f (jo 32 (.ixs 1 (.tmp 31) (.const (.int .i64 0))))
 (.f (jl 33 32)
 (.f (jo 34 (.bld [(.int .i64 0), (.int .i64 0), (.int .i64 0), (.int .i64 0), (.int .i64 0)] [(0, 1, (.const (.int .i64 13)))]))
 (.both (.f (jl 29 28)
 (.m (jo 35 (.blds 69 1 [(.int .i64 0), (.int .i64 0), (.int .i64 0), (.int .i64 0), (.int .i64 0)] [(0, 5, (.tmp 34))]))
 (.m (jo 36 (.app 69 5 40 [(.int .i64 0), (.int .i64 0), (.int .i64 0), (.int .i64 0), (.int .i64 0)] (.tmp 33) (.tmp 35)))
 (.f (jo 37 (.ixs 1 (.tmp 29) (.const (.int .i64 0))))
 (.m (js 37 36)
 .done)))))
 (.m (jo 35 (.blds 69 1 [(.int .i64 0), (.int .i64 0), (.int .i64 0), (.int .i64 0), (.int .i64 0)] [(0, 5, (.tmp 34))]))
 (.both (.f (jl 29 28)
 (.m (jo 36 (.app 69 5 40 [(.int .i64 0), (.int .i64 0), (.int .i64 0), (.int .i64 0), (.int .i64 0)] (.tmp 33) (.tmp 35)))
 (.f (jo 37 (.ixs 1 (.tmp 29) (.const (.int .i64 0))))
 (.m (js 37 36)
 .done))))
 (.m (jo 36 (.app 69 5 40 [(.int .i64 0), (.int .i64 0), (.int .i64 0), (.int .i64 0), (.int .i64 0)] (.tmp 33) (.tmp 35)))
 (.f (jl 29 28)
 (.f (jo 37 (.ixs 1 (.tmp 29) (.const (.int .i64 0))))
 (.m (js 37 36)
 .done)))))))))))))))
 (.region [(jm 26 8), (ja 27 26 1), (jm 8 27)]))))))
 (.seq (.seq (.region [(jk 9 0)])
 (.block 2
 (.loop 9006924376834560
 (.seq (.seq (.region [(jm 38 9), (jm 39 6), (jw 40 38 39)])
 (.cond (.tmp 40)
 .skip
 (.exit 2)))
 (.seq (.block 3
 (.draw (.f (jf 43 14 7)
 (.f (jf 45 14 7)
 (.f (jl 46 45)
 (.f (jo 47 (.ixs 1 (.tmp 46) (.const (.int .i64 1))))
 (.f (jl 48 47)
 (.f (jo 49 (.bld [(.int .i64 0), (.int .i64 0), (.int .i64 0), (.int .i64 0), (.int .i64 0)] [(0, 1, (.const (.int .i64 12))), (1, 1, (.const (.int .i64 1))), (4, 1, (.const (.int .i64 1)))]))
 (.both (.f (jl 44 43)
 (.m (jo 50 (.blds 69 1 [(.int .i64 0), (.int .i64 0), (.int .i64 0), (.int .i64 0), (.int .i64 0)] [(0, 5, (.tmp 49))]))
 (.m (jo 51 (.app 69 5 40 [(.int .i64 0), (.int .i64 0), (.int .i64 0), (.int .i64 0), (.int .i64 0)] (.tmp 48) (.tmp 50)))
 (.f (jo 52 (.ixs 1 (.tmp 44) (.const (.int .i64 1))))
 (.m (js 52 51)
 .done)))))
 (.m (jo 50 (.blds 69 1 [(.int .i64 0), (.int .i64 0), (.int .i64 0), (.int .i64 0), (.int .i64 0)] [(0, 5, (.tmp 49))]))
 (.both (.f (jl 44 43)
 (.m (jo 51 (.app 69 5 40 [(.int .i64 0), (.int .i64 0), (.int .i64 0), (.int .i64 0), (.int .i64 0)] (.tmp 48) (.tmp 50)))
 (.f (jo 52 (.ixs 1 (.tmp 44) (.const (.int .i64 1))))
 (.m (js 52 51)
 .done))))
 (.m (jo 51 (.app 69 5 40 [(.int .i64 0), (.int .i64 0), (.int .i64 0), (.int .i64 0), (.int .i64 0)] (.tmp 48) (.tmp 50)))
 (.f (jl 44 43)
 (.f (jo 52 (.ixs 1 (.tmp 44) (.const (.int .i64 1))))
 (.m (js 52 51)
 .done)))))))))))))))
 (.region [(jm 41 9), (ja 42 41 1), (jm 9 42)]))))))
 (.seq (.region [(jk 10 1)])
 (.seq (.seq (.region [(jk 11 1)])
 (.block 4
 (.loop 36884480948164365312
 (.seq (.seq (.region [(jm 53 11), (jm 54 5), (jo 55 (.bin .leq (.tmp 53) (.tmp 54)))])
 (.cond (.tmp 55)
 .skip
 (.exit 4)))
 (.seq (.block 5
 (.region [(jm 58 10), (jm 59 6), (jm 60 11), (jo 61 (.bin .add (.tmp 59) (.tmp 60))), (jo 62 (.bin .mul (.tmp 58) (.tmp 61))), (jm 63 11), (jo 64 (.bin .quo (.tmp 62) (.tmp 63))),
 (jm 10 64)]))
 (.region [(jm 56 11), (ja 57 56 1), (jm 11 57)]))))))
 (.seq (.region [(jL 66 16 7), (jo 67 (.blds 3 1 [(.int .i64 0)] [(0, 1, (.const (.int .i64 5)))])), (jm 68 10), (jo 69 (.call 13 [(.tmp 66), (.tmp 67), (.tmp 68)])),
 (jm 65 69), (je 70 65 0), (je 71 65 1), (jo 12 (.new 37 (.agg #[.bool false, .slice none 0 0, .int .i64 0]))), (jS 3 12 70), (jm 13 71)])
 (.seq (.seq (.region [(jm 72 10), (jo 73 (.bin .gtr (.tmp 72) (.const (.int .i64 1))))])
 (.cond (.tmp 73)
 (.seq (.region [(jL 75 16 7), (jm 76 10), (jo 77 (.bin .sub (.tmp 76) (.const (.int .i64 1)))), (jo 78 (.call 13 [(.tmp 75), (.const (.slice none 0 0)), (.tmp 77)])),
 (jm 74 78), (je 79 74 0), (je 80 74 1), (jo 14 (.new 37 (.agg #[.bool false, .slice none 0 0, .int .i64 0]))), (jS 3 14 79), (jm 15 80)])
 (.seq (.region [(jm 81 15), (jo 82 (.bin .neq (.tmp 81) (.const (.int .i64 80))))])
 (.cond (.tmp 82)
 (.seq (.region [(jo 4 (.mov (.const (.bool false))))])
 .ret)
 .skip)))
 .skip))
 (.seq (.region [(jm 83 13), (jq 84 83 0), (jm 85 84), (jy 85 (jf 86 0 12)), (jy 85 (jl 87 86)), (jy 85 (jo 88 (.not (.tmp 87)))), (jA 89 85 88), (jm 90 89), (jy 90 (jf 91 2 12)),
 (jy 90 (jl 92 91)), (jy 90 (jm 93 10)), (jy 90 (jo 94 (.bin .eql (.tmp 92) (.tmp 93)))), (jA 95 90 94), (jm 96 95), (jy 96 (jo 97 (.call 10 []))), (jA 98 96 97),
 (jm 4 98)])
 .ret))))))))))),
 [.tmp 4]⟩
theorem low_law26_ExploreCounts : lowFn Tryz.prog movers 8 = some ⟨ir_law26_ExploreCounts.n, strip ir_law26_ExploreCounts.body, ir_law26_ExploreCounts.res⟩ := by kernel_rfl
def ir_law26_awake : IFn := ⟨52,
 (.seq (.region [(jo 0 (.mov (.const (.bool false))))])
 (.seq (.region [(jo 6 (.call 23 [(.const (.int .i64 0)), (.const (.int .i64 1))])), (jo 7 (.call 13 [(.tmp 6), (.const (.slice none 0 0)), (.const (.int .i64 10))])),
 (jm 5 7), (je 8 5 0), (je 9 5 1), (jo 1 (.new 37 (.agg #[.bool false, .slice none 0 0, .int .i64 0]))), (jS 3 1 8), (jm 2 9)])
 (.seq (.region [(jo 11 (.call 23 [(.const (.int .i64 1)), (.const (.int .i64 1))])), (jo 12 (.call 13 [(.tmp 11), (.const (.slice none 0 0)), (.const (.int .i64 10))])),
 (jm 10 12), (je 13 10 0), (je 14 10 1), (jo 3 (.new 37 (.agg #[.bool false, .slice none 0 0, .int .i64 0]))), (jS 3 3 13), (jm 4 14)])
 (.seq (.region [(jm 15 2), (jq 16 15 0), (jm 17 16), (jy 17 (jf 18 0 1)), (jy 17 (jl 19 18)), (jy 17 (jo 20 (.not (.tmp 19)))), (jA 21 17 20), (jm 22 21), (jy 22 (jf 23 2 1)),
 (jy 22 (jl 24 23)), (jy 22 (jq 25 24 2)), (jA 26 22 25), (jm 27 26), (jy 27 (jf 28 1 1)), (jy 27 (jl 29 28)), (jy 27 (jt 30 29)), (jy 27 (jq 31 30 0)), (jA 32 27 31),
 (jm 33 32), (jy 33 (jm 34 4)), (jy 33 (jq 35 34 0)), (jA 36 33 35), (jm 37 36), (jy 37 (jf 38 0 3)), (jy 37 (jl 39 38)), (jA 40 37 39), (jm 41 40), (jy 41 (jf 42 2 3)),
 (jy 41 (jl 43 42)), (jy 41 (jq 44 43 1)), (jA 45 41 44), (jm 46 45), (jy 46 (jf 47 1 3)), (jy 46 (jl 48 47)), (jy 46 (jt 49 48)), (jy 46 (jq 50 49 2)), (jA 51 46 50),
 (jm 0 51)])
 .ret)))),
 [.tmp 0]⟩
theorem low_law26_awake : lowFn Tryz.prog movers 10 = some ⟨ir_law26_awake.n, strip ir_law26_awake.body, ir_law26_awake.res⟩ := by kernel_rfl
def ir_law26_two : IFn := ⟨15,
 (.seq (.region [(jo 4 (.new 32 (.agg #[.int .i64 0, .int .i64 0, .int .i64 0, .int .i64 0, .int .i64 0, .int .i64 0, .int .i64 0, .int .i64 0, .int .i64 0, .int .i64 0, .int .i64 0, .int .i64 0, .bool false, .slice none 0 0, .slice none 0 0, .slice none 0 0])))])
 (.seq (.region [(jo 5 (.bld [(.int .i64 0), (.int .i64 0), (.int .i64 0), (.int .i64 0), (.int .i64 0), (.int .i64 0), (.int .i64 0), (.int .i64 0), (.int .i64 0), (.int .i64 0), (.int .i64 0), (.int .i64 0), (.bool false)] [(0, 1, (.const (.int .i64 2))), (1, 1, (.const (.int .i64 1))), (7, 1, (.const (.int .i64 1))), (8, 1, (.const (.int .i64 1)))])),
 (jo 6 (.blds 58 2 [(.int .u64 0), (.int .u64 0)] [(0, 1, (.const (.int .u64 0))), (1, 1, (.const (.int .u64 0)))])), (jm 7 0), (jo 8 (.bld [(.int .i64 0), (.int .i64 0), (.int .i64 0), (.int .i64 0), (.int .i64 0)] [(0, 1, (.const (.int .i64 13))), (4, 1, (.tmp 7))])),
 (jo 9 (.blds 69 1 [(.int .i64 0), (.int .i64 0), (.int .i64 0), (.int .i64 0), (.int .i64 0)] [(0, 5, (.tmp 8))])), (jm 10 1), (jo 11 (.bld [(.int .i64 0), (.int .i64 0), (.int .i64 0), (.int .i64 0), (.int .i64 0)] [(0, 1, (.const (.int .i64 13))), (4, 1, (.tmp 10))])),
 (jo 12 (.blds 69 1 [(.int .i64 0), (.int .i64 0), (.int .i64 0), (.int .i64 0), (.int .i64 0)] [(0, 5, (.tmp 11))])), (jo 13 (.blds 66 2 [(.slice none 0 0), (.slice none 0 0)] [(0, 1, (.tmp 9)), (1, 1, (.tmp 12))])),
 (jo 14 (.bld [(.int .i64 0), (.int .i64 0), (.int .i64 0), (.int .i64 0), (.int .i64 0), (.int .i64 0), (.int .i64 0), (.int .i64 0), (.int .i64 0), (.int .i64 0), (.int .i64 0), (.int .i64 0), (.bool false), (.slice none 0 0), (.slice none 0 0), (.slice none 0 0)] [(0, 13, (.tmp 5)), (13, 1, (.tmp 6)), (14, 1, (.tmp 13))])),
 (jS 16 4 14)])
 .ret)),
 [.cellN 4 16]⟩
theorem low_law26_two : lowFn Tryz.prog movers 23 = some ⟨ir_law26_two.n, strip ir_law26_two.body, ir_law26_two.res⟩ := by kernel_rfl
end Go.Proofs.YtkieffpjjfebjaaGreatDoor

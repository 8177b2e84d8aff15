/- Contracts of functions of the program, and what proves them (texts: BTy Inst Num B1 B2 B3). -/
import Derived.Test.YtaidcaemdkncgaaGreatDoorProg
import Derived.KernelRfl
import Derived.Test.YtaidcaemdkncgaaGreatDoorZAC
set_option linter.all false
set_option maxRecDepth 100000
set_option maxHeartbeats 8000000
namespace Go.Proofs.YtaidcaemdkncgaaGreatDoor
section
open Go Go.Lg
theorem cJb:aL Tryz.prog 2=some 1:=by kernel_rfl
theorem cJc:bH Tryz.prog 2=some 8:=by kernel_rfl
theorem cJd:bE Tryz.prog 2=some false:=by kernel_rfl
theorem cJe:bS Tryz.prog 2=some [(.lit (.int .i64 0))]:=by kernel_rfl
theorem cJf:aT Tryz.prog 2=none:=by kernel_rfl
theorem cJg:cY Tryz.prog 2=none:=by kernel_rfl
theorem cJh:aY Tryz.prog 2=none:=by kernel_rfl
theorem cJi:mF Tryz.prog 2=some .i64:=by kernel_rfl
theorem bPq:aL Tryz.prog 3=some 1:=by kernel_rfl
theorem bPr:bH Tryz.prog 3=some 8:=by kernel_rfl
theorem cJj:bE Tryz.prog 3=some false:=by kernel_rfl
theorem bPs:bS Tryz.prog 3=some [(.lit (.int .i64 0))]:=by kernel_rfl
theorem cJk:aT Tryz.prog 3=none:=by kernel_rfl
theorem cJl:cY Tryz.prog 3=none:=by kernel_rfl
theorem cJm:aY Tryz.prog 3=none:=by kernel_rfl
theorem cJn:mF Tryz.prog 3=some .i64:=by kernel_rfl
theorem cJo:aL Tryz.prog 4=some 1:=by kernel_rfl
theorem cJp:bH Tryz.prog 4=some 1:=by kernel_rfl
theorem cJq:bE Tryz.prog 4=some false:=by kernel_rfl
theorem cJr:bS Tryz.prog 4=some [(.lit (.bool false))]:=by kernel_rfl
theorem cJs:aLa Tryz.prog 4=true:=by kernel_rfl
theorem cJt:aT Tryz.prog 4=none:=by kernel_rfl
theorem cJu:cY Tryz.prog 4=none:=by kernel_rfl
theorem cJv:aY Tryz.prog 4=none:=by kernel_rfl
theorem cJw:aL Tryz.prog 5=some 1:=by kernel_rfl
theorem cJx:bH Tryz.prog 5=some 1:=by kernel_rfl
theorem cJy:bE Tryz.prog 5=some false:=by kernel_rfl
theorem cJz:bS Tryz.prog 5=some [(.lit (.int .u8 0))]:=by kernel_rfl
theorem cJ0:aT Tryz.prog 5=none:=by kernel_rfl
theorem cJ1:cY Tryz.prog 5=none:=by kernel_rfl
theorem cJ2:aY Tryz.prog 5=none:=by kernel_rfl
theorem cJ3:mF Tryz.prog 5=some .u8:=by kernel_rfl
theorem cJ4:aL Tryz.prog 9=some 1:=by kernel_rfl
theorem cJ5:bH Tryz.prog 9=some 16:=by kernel_rfl
theorem cJ6:bE Tryz.prog 9=some false:=by kernel_rfl
theorem cJ7:bS Tryz.prog 9=some [(.lit (.string ByteArray.empty))]:=by kernel_rfl
theorem cJ8:aT Tryz.prog 9=none:=by kernel_rfl
theorem cJ9:cY Tryz.prog 9=none:=by kernel_rfl
theorem cKa:aY Tryz.prog 9=none:=by kernel_rfl
theorem bX8:aL Tryz.prog 12=some 1:=by kernel_rfl
theorem bX9:bH Tryz.prog 12=some 8:=by kernel_rfl
theorem bYa:bE Tryz.prog 12=some false:=by kernel_rfl
theorem bYb:bS Tryz.prog 12=some [(.lit (.int .u64 0))]:=by kernel_rfl
theorem bYc:aT Tryz.prog 12=none:=by kernel_rfl
theorem bYd:cY Tryz.prog 12=none:=by kernel_rfl
theorem bYe:aY Tryz.prog 12=none:=by kernel_rfl
theorem bYf:mF Tryz.prog 12=some .u64:=by kernel_rfl
theorem bYg:aL Tryz.prog 13=some 2:=by kernel_rfl
theorem bYh:bH Tryz.prog 13=some 24:=by kernel_rfl
theorem bYi:bE Tryz.prog 13=some true:=by kernel_rfl
theorem bYj:bS Tryz.prog 13=some [(.lit (.string ByteArray.empty)),(.lit (.int .u64 0))]:=by kernel_rfl
theorem bYk:aT Tryz.prog 13=some [(0,1),(1,1)]:=by kernel_rfl
theorem bYl:cY Tryz.prog 13=none:=by kernel_rfl
theorem bYm:aY Tryz.prog 13=none:=by kernel_rfl
theorem bFz:aV Tryz.prog 13 0=some (0,9):=by kernel_rfl
theorem bF0:aV Tryz.prog 13 1=some (1,12):=by kernel_rfl
theorem bYn:aL Tryz.prog 21=some 1:=by kernel_rfl
theorem bYo:bH Tryz.prog 21=some 4:=by kernel_rfl
theorem bYp:bE Tryz.prog 21=some false:=by kernel_rfl
theorem bYq:bS Tryz.prog 21=some [(.lit (.int .i32 0))]:=by kernel_rfl
theorem bYr:aT Tryz.prog 21=none:=by kernel_rfl
theorem bYs:cY Tryz.prog 21=none:=by kernel_rfl
theorem bYt:aY Tryz.prog 21=none:=by kernel_rfl
theorem bYu:mF Tryz.prog 21=some .i32:=by kernel_rfl
theorem bYv:aL Tryz.prog 23=some 1:=by kernel_rfl
theorem bYw:bH Tryz.prog 23=some 24:=by kernel_rfl
theorem bYx:bE Tryz.prog 23=some false:=by kernel_rfl
theorem bYy:bS Tryz.prog 23=some [(.lit (.slice none 0 0))]:=by kernel_rfl
theorem bYz:aT Tryz.prog 23=none:=by kernel_rfl
theorem bY0:cY Tryz.prog 23=none:=by kernel_rfl
theorem aY3:aY Tryz.prog 23=some 3:=by kernel_rfl
theorem bY1:aL Tryz.prog 24=some 2:=by kernel_rfl
theorem bY2:bH Tryz.prog 24=some 32:=by kernel_rfl
theorem bY3:bE Tryz.prog 24=some true:=by kernel_rfl
theorem bY4:bS Tryz.prog 24=some [(.lit (.int .i64 0)),(.lit (.slice none 0 0))]:=by kernel_rfl
theorem bY5:aT Tryz.prog 24=some [(0,1),(1,1)]:=by kernel_rfl
theorem bY6:cY Tryz.prog 24=none:=by kernel_rfl
theorem bY7:aY Tryz.prog 24=none:=by kernel_rfl
theorem bF1:aV Tryz.prog 24 0=some (0,3):=by kernel_rfl
theorem bF2:aV Tryz.prog 24 1=some (1,23):=by kernel_rfl
theorem bY8:aL Tryz.prog 25=some 2:=by kernel_rfl
theorem bY9:bH Tryz.prog 25=some 32:=by kernel_rfl
theorem bZa:bE Tryz.prog 25=some true:=by kernel_rfl
theorem bZb:bS Tryz.prog 25=some [(.lit (.int .i64 0)),(.lit (.slice none 0 0))]:=by kernel_rfl
theorem bZc:aT Tryz.prog 25=some [(0,1),(1,1)]:=by kernel_rfl
theorem bZd:cY Tryz.prog 25=none:=by kernel_rfl
theorem bZe:aY Tryz.prog 25=none:=by kernel_rfl
theorem bF3:aV Tryz.prog 25 0=some (0,3):=by kernel_rfl
theorem bF4:aV Tryz.prog 25 1=some (1,23):=by kernel_rfl
theorem bZf:aL Tryz.prog 26=some 1:=by kernel_rfl
theorem bZg:bH Tryz.prog 26=some 8:=by kernel_rfl
theorem bZh:bE Tryz.prog 26=some false:=by kernel_rfl
theorem bZi:bS Tryz.prog 26=some [(.lit (.int .i64 0))]:=by kernel_rfl
theorem bZj:aT Tryz.prog 26=none:=by kernel_rfl
theorem bZk:cY Tryz.prog 26=none:=by kernel_rfl
theorem bZl:aY Tryz.prog 26=none:=by kernel_rfl
theorem bZm:mF Tryz.prog 26=some .i64:=by kernel_rfl
theorem bZn:aL Tryz.prog 29=some 1:=by kernel_rfl
theorem bZo:bH Tryz.prog 29=some 24:=by kernel_rfl
theorem bZp:bE Tryz.prog 29=some false:=by kernel_rfl
theorem bZq:bS Tryz.prog 29=some [(.lit (.slice none 0 0))]:=by kernel_rfl
theorem bZr:aT Tryz.prog 29=none:=by kernel_rfl
theorem bZs:cY Tryz.prog 29=none:=by kernel_rfl
theorem bZt:aY Tryz.prog 29=some 47:=by kernel_rfl
theorem bZu:aL Tryz.prog 30=some 1:=by kernel_rfl
theorem bZv:bH Tryz.prog 30=some 24:=by kernel_rfl
theorem bZw:bE Tryz.prog 30=some false:=by kernel_rfl
theorem bZx:bS Tryz.prog 30=some [(.lit (.slice none 0 0))]:=by kernel_rfl
theorem bZy:aT Tryz.prog 30=none:=by kernel_rfl
theorem bZz:cY Tryz.prog 30=none:=by kernel_rfl
theorem bZ0:aY Tryz.prog 30=some 47:=by kernel_rfl
theorem bZ1:aL Tryz.prog 43=some 1:=by kernel_rfl
theorem bZ2:bH Tryz.prog 43=some 24:=by kernel_rfl
theorem bZ3:bE Tryz.prog 43=some false:=by kernel_rfl
theorem bZ4:bS Tryz.prog 43=some [(.lit (.slice none 0 0))]:=by kernel_rfl
theorem bZ5:aT Tryz.prog 43=none:=by kernel_rfl
theorem bZ6:cY Tryz.prog 43=none:=by kernel_rfl
theorem bZ7:aY Tryz.prog 43=some 185:=by kernel_rfl
theorem bZ8:aL Tryz.prog 44=some 2:=by kernel_rfl
theorem bZ9:bH Tryz.prog 44=some 32:=by kernel_rfl
theorem cAa:bE Tryz.prog 44=some true:=by kernel_rfl
theorem cAb:bS Tryz.prog 44=some [(.lit (.bool false)),(.lit (.slice none 0 0))]:=by kernel_rfl
theorem cAc:aT Tryz.prog 44=some [(0,1),(1,1)]:=by kernel_rfl
theorem cAd:cY Tryz.prog 44=none:=by kernel_rfl
theorem cAe:aY Tryz.prog 44=none:=by kernel_rfl
theorem bF5:aV Tryz.prog 44 0=some (0,4):=by kernel_rfl
theorem bF6:aV Tryz.prog 44 1=some (1,43):=by kernel_rfl
theorem cAf:aL Tryz.prog 45=some 2:=by kernel_rfl
theorem cAg:bH Tryz.prog 45=some 32:=by kernel_rfl
theorem cAh:bE Tryz.prog 45=some true:=by kernel_rfl
theorem cAi:bS Tryz.prog 45=some [(.lit (.bool false)),(.lit (.slice none 0 0))]:=by kernel_rfl
theorem cAj:aT Tryz.prog 45=some [(0,1),(1,1)]:=by kernel_rfl
theorem cAk:cY Tryz.prog 45=none:=by kernel_rfl
theorem cAl:aY Tryz.prog 45=none:=by kernel_rfl
theorem bF7:aV Tryz.prog 45 0=some (0,4):=by kernel_rfl
theorem bF8:aV Tryz.prog 45 1=some (1,43):=by kernel_rfl
theorem cAm:aL Tryz.prog 46=some 4:=by kernel_rfl
theorem cAn:bH Tryz.prog 46=some 64:=by kernel_rfl
theorem cAo:bE Tryz.prog 46=some true:=by kernel_rfl
theorem cAp:bS Tryz.prog 46=some [(.lit (.bool false)),(.lit (.slice none 0 0)),(.lit (.bool false)),(.lit (.slice none 0 0))]:=by kernel_rfl
theorem cAq:aT Tryz.prog 46=some [(0,2),(2,2)]:=by kernel_rfl
theorem cAr:cY Tryz.prog 46=none:=by kernel_rfl
theorem cAs:aY Tryz.prog 46=none:=by kernel_rfl
theorem bF9:aV Tryz.prog 46 0=some (0,45):=by kernel_rfl
theorem bGa:aV Tryz.prog 46 1=some (2,45):=by kernel_rfl
theorem cAt:aL Tryz.prog 47=some 4:=by kernel_rfl
theorem cAu:bH Tryz.prog 47=some 64:=by kernel_rfl
theorem cAv:bE Tryz.prog 47=some true:=by kernel_rfl
theorem cAw:bS Tryz.prog 47=some [(.lit (.bool false)),(.lit (.slice none 0 0)),(.lit (.bool false)),(.lit (.slice none 0 0))]:=by kernel_rfl
theorem cAx:aT Tryz.prog 47=some [(0,2),(2,2)]:=by kernel_rfl
theorem cAy:cY Tryz.prog 47=none:=by kernel_rfl
theorem cAz:aY Tryz.prog 47=none:=by kernel_rfl
theorem bGb:aV Tryz.prog 47 0=some (0,45):=by kernel_rfl
theorem bGc:aV Tryz.prog 47 1=some (2,45):=by kernel_rfl
theorem cA0:aL Tryz.prog 57=some 5:=by kernel_rfl
theorem cA1:bH Tryz.prog 57=some 72:=by kernel_rfl
theorem cA2:bE Tryz.prog 57=some true:=by kernel_rfl
theorem cA3:bS Tryz.prog 57=some [(.lit (.int .i64 0)),(.lit (.slice none 0 0)),(.lit (.int .i64 0)),(.lit (.slice none 0 0)),(.lit (.int .i64 0))]:=by kernel_rfl
theorem cA4:aT Tryz.prog 57=some [(0,2),(2,2),(4,1)]:=by kernel_rfl
theorem cA5:cY Tryz.prog 57=none:=by kernel_rfl
theorem cA6:aY Tryz.prog 57=none:=by kernel_rfl
theorem bGd:aV Tryz.prog 57 0=some (0,25):=by kernel_rfl
theorem bGe:aV Tryz.prog 57 1=some (2,25):=by kernel_rfl
theorem bGf:aV Tryz.prog 57 2=some (4,3):=by kernel_rfl
theorem cA7:aL Tryz.prog 58=some 5:=by kernel_rfl
theorem cA8:bH Tryz.prog 58=some 72:=by kernel_rfl
theorem cA9:bE Tryz.prog 58=some true:=by kernel_rfl
theorem cBa:bS Tryz.prog 58=some [(.lit (.int .i64 0)),(.lit (.slice none 0 0)),(.lit (.int .i64 0)),(.lit (.slice none 0 0)),(.lit (.int .i64 0))]:=by kernel_rfl
theorem cBb:aT Tryz.prog 58=some [(0,2),(2,2),(4,1)]:=by kernel_rfl
theorem cBc:cY Tryz.prog 58=none:=by kernel_rfl
theorem cBd:aY Tryz.prog 58=none:=by kernel_rfl
theorem bGg:aV Tryz.prog 58 0=some (0,25):=by kernel_rfl
theorem bGh:aV Tryz.prog 58 1=some (2,25):=by kernel_rfl
theorem bGi:aV Tryz.prog 58 2=some (4,3):=by kernel_rfl
theorem cBe:aL Tryz.prog 59=some 1:=by kernel_rfl
theorem cBf:bH Tryz.prog 59=some 24:=by kernel_rfl
theorem cBg:bE Tryz.prog 59=some false:=by kernel_rfl
theorem cBh:bS Tryz.prog 59=some [(.lit (.slice none 0 0))]:=by kernel_rfl
theorem cBi:aT Tryz.prog 59=none:=by kernel_rfl
theorem cBj:cY Tryz.prog 59=none:=by kernel_rfl
theorem cBk:aY Tryz.prog 59=some 80:=by kernel_rfl
theorem cBl:aL Tryz.prog 66=some 3:=by kernel_rfl
theorem cBm:bH Tryz.prog 66=some 24:=by kernel_rfl
theorem cBn:bE Tryz.prog 66=some true:=by kernel_rfl
theorem cBo:bS Tryz.prog 66=some [(.lit (.int .i64 0)),(.lit (.int .i64 0)),(.lit (.int .i64 0))]:=by kernel_rfl
theorem cBp:aT Tryz.prog 66=some [(0,1),(1,1),(2,1)]:=by kernel_rfl
theorem cBq:cY Tryz.prog 66=none:=by kernel_rfl
theorem cBr:aY Tryz.prog 66=none:=by kernel_rfl
theorem bGj:aV Tryz.prog 66 0=some (0,3):=by kernel_rfl
theorem bGk:aV Tryz.prog 66 1=some (1,3):=by kernel_rfl
theorem bGl:aV Tryz.prog 66 2=some (2,3):=by kernel_rfl
theorem cBs:aL Tryz.prog 68=some 1:=by kernel_rfl
theorem cBt:bH Tryz.prog 68=some 24:=by kernel_rfl
theorem cBu:bE Tryz.prog 68=some false:=by kernel_rfl
theorem cBv:bS Tryz.prog 68=some [(.lit (.slice none 0 0))]:=by kernel_rfl
theorem cBw:aT Tryz.prog 68=none:=by kernel_rfl
theorem cBx:cY Tryz.prog 68=none:=by kernel_rfl
theorem cBy:aY Tryz.prog 68=some 58:=by kernel_rfl
theorem cBz:aL Tryz.prog 80=some 2:=by kernel_rfl
theorem cB0:bH Tryz.prog 80=some 32:=by kernel_rfl
theorem cB1:bE Tryz.prog 80=some true:=by kernel_rfl
theorem cB2:bS Tryz.prog 80=some [(.lit (.int .i64 0)),(.lit (.slice none 0 0))]:=by kernel_rfl
theorem cB3:aT Tryz.prog 80=some [(0,1),(1,1)]:=by kernel_rfl
theorem cB4:cY Tryz.prog 80=none:=by kernel_rfl
theorem cB5:aY Tryz.prog 80=none:=by kernel_rfl
theorem bGm:aV Tryz.prog 80 0=some (0,3):=by kernel_rfl
theorem bGn:aV Tryz.prog 80 1=some (1,29):=by kernel_rfl
theorem cB6:aL Tryz.prog 88=some 3:=by kernel_rfl
theorem cB7:bH Tryz.prog 88=some 24:=by kernel_rfl
theorem cB8:bE Tryz.prog 88=some true:=by kernel_rfl
theorem cB9:bS Tryz.prog 88=some [(.lit (.bool false)),(.lit (.int .i64 0)),(.lit (.int .i64 0))]:=by kernel_rfl
theorem cCa:aT Tryz.prog 88=some [(0,1),(1,1),(2,1)]:=by kernel_rfl
theorem cCb:cY Tryz.prog 88=none:=by kernel_rfl
theorem cCc:aY Tryz.prog 88=none:=by kernel_rfl
theorem bGo:aV Tryz.prog 88 0=some (0,4):=by kernel_rfl
theorem bGp:aV Tryz.prog 88 1=some (1,3):=by kernel_rfl
theorem bGq:aV Tryz.prog 88 2=some (2,3):=by kernel_rfl
theorem cCd:aL Tryz.prog 89=some 3:=by kernel_rfl
theorem cCe:bH Tryz.prog 89=some 24:=by kernel_rfl
theorem cCf:bE Tryz.prog 89=some true:=by kernel_rfl
theorem cCg:bS Tryz.prog 89=some [(.lit (.bool false)),(.lit (.int .i64 0)),(.lit (.int .i64 0))]:=by kernel_rfl
theorem cCh:aT Tryz.prog 89=some [(0,1),(1,1),(2,1)]:=by kernel_rfl
theorem cCi:cY Tryz.prog 89=none:=by kernel_rfl
theorem cCj:aY Tryz.prog 89=none:=by kernel_rfl
theorem bGr:aV Tryz.prog 89 0=some (0,4):=by kernel_rfl
theorem bGs:aV Tryz.prog 89 1=some (1,3):=by kernel_rfl
theorem bGt:aV Tryz.prog 89 2=some (2,3):=by kernel_rfl
theorem cCk:aL Tryz.prog 92=some 1:=by kernel_rfl
theorem cCl:bH Tryz.prog 92=some 24:=by kernel_rfl
theorem cCm:bE Tryz.prog 92=some false:=by kernel_rfl
theorem cCn:bS Tryz.prog 92=some [(.lit (.slice none 0 0))]:=by kernel_rfl
theorem cCo:aT Tryz.prog 92=none:=by kernel_rfl
theorem cCp:cY Tryz.prog 92=none:=by kernel_rfl
theorem cCq:aY Tryz.prog 92=some 3:=by kernel_rfl
theorem cCr:aL Tryz.prog 98=some 1:=by kernel_rfl
theorem cCs:bH Tryz.prog 98=some 24:=by kernel_rfl
theorem cCt:bE Tryz.prog 98=some false:=by kernel_rfl
theorem cCu:bS Tryz.prog 98=some [(.lit (.slice none 0 0))]:=by kernel_rfl
theorem cCv:aT Tryz.prog 98=none:=by kernel_rfl
theorem cCw:cY Tryz.prog 98=none:=by kernel_rfl
theorem cCx:aY Tryz.prog 98=some 45:=by kernel_rfl
theorem cCy:aL Tryz.prog 99=some 1:=by kernel_rfl
theorem cCz:bH Tryz.prog 99=some 24:=by kernel_rfl
theorem cC0:bE Tryz.prog 99=some false:=by kernel_rfl
theorem cC1:bS Tryz.prog 99=some [(.lit (.slice none 0 0))]:=by kernel_rfl
theorem cC2:aT Tryz.prog 99=none:=by kernel_rfl
theorem cC3:cY Tryz.prog 99=none:=by kernel_rfl
theorem cC4:aY Tryz.prog 99=some 45:=by kernel_rfl
theorem bPt:aL Tryz.prog 100=some 1:=by kernel_rfl
theorem bPu:bH Tryz.prog 100=some 24:=by kernel_rfl
theorem bPv:bE Tryz.prog 100=some true:=by kernel_rfl
theorem bPw:bS Tryz.prog 100=some [(.lit (.slice none 0 0))]:=by kernel_rfl
theorem bPx:aT Tryz.prog 100=some [(0,1)]:=by kernel_rfl
theorem bPy:cY Tryz.prog 100=none:=by kernel_rfl
theorem bPz:aY Tryz.prog 100=none:=by kernel_rfl
theorem aY4:aV Tryz.prog 100 0=some (0,99):=by kernel_rfl
theorem bP0:aL Tryz.prog 101=some 1:=by kernel_rfl
theorem bP1:bH Tryz.prog 101=some 24:=by kernel_rfl
theorem bP2:bE Tryz.prog 101=some true:=by kernel_rfl
theorem bP3:bS Tryz.prog 101=some [(.lit (.slice none 0 0))]:=by kernel_rfl
theorem bP4:aT Tryz.prog 101=some [(0,1)]:=by kernel_rfl
theorem bP5:cY Tryz.prog 101=none:=by kernel_rfl
theorem bP6:aY Tryz.prog 101=none:=by kernel_rfl
theorem aY5:aV Tryz.prog 101 0=some (0,99):=by kernel_rfl
theorem bP7:aL Tryz.prog 132=some 1:=by kernel_rfl
theorem bP8:bH Tryz.prog 132=some 24:=by kernel_rfl
theorem bP9:bE Tryz.prog 132=some false:=by kernel_rfl
theorem bQa:bS Tryz.prog 132=some [(.lit (.slice none 0 0))]:=by kernel_rfl
theorem bQb:aT Tryz.prog 132=none:=by kernel_rfl
theorem bQc:cY Tryz.prog 132=none:=by kernel_rfl
theorem bQd:aY Tryz.prog 132=some 29:=by kernel_rfl
theorem bQe:aL Tryz.prog 133=some 1:=by kernel_rfl
theorem bQf:bH Tryz.prog 133=some 24:=by kernel_rfl
theorem bQg:bE Tryz.prog 133=some false:=by kernel_rfl
theorem bQh:bS Tryz.prog 133=some [(.lit (.slice none 0 0))]:=by kernel_rfl
theorem bQi:aT Tryz.prog 133=none:=by kernel_rfl
theorem bQj:cY Tryz.prog 133=none:=by kernel_rfl
theorem bQk:aY Tryz.prog 133=some 30:=by kernel_rfl
theorem bQl:aL Tryz.prog 150=some 1:=by kernel_rfl
theorem bQm:bH Tryz.prog 150=some 24:=by kernel_rfl
theorem bQn:bE Tryz.prog 150=some false:=by kernel_rfl
theorem bQo:bS Tryz.prog 150=some [(.lit (.slice none 0 0))]:=by kernel_rfl
theorem bQp:aT Tryz.prog 150=none:=by kernel_rfl
theorem bQq:cY Tryz.prog 150=none:=by kernel_rfl
theorem bQr:aY Tryz.prog 150=some 25:=by kernel_rfl
theorem bQs:aL Tryz.prog 159=some 5:=by kernel_rfl
theorem bQt:bH Tryz.prog 159=some 40:=by kernel_rfl
theorem bQu:bE Tryz.prog 159=some true:=by kernel_rfl
theorem bQv:bS Tryz.prog 159=some [(.lit (.int .i64 0)),(.lit (.int .i64 0)),(.lit (.int .i64 0)),(.lit (.int .i64 0)),(.lit (.int .i64 0))]:=by kernel_rfl
theorem bQw:aT Tryz.prog 159=some [(0,1),(1,1),(2,1),(3,1),(4,1)]:=by kernel_rfl
theorem bQx:cY Tryz.prog 159=none:=by kernel_rfl
theorem bQy:aY Tryz.prog 159=none:=by kernel_rfl
theorem aY6:aV Tryz.prog 159 0=some (0,3):=by kernel_rfl
theorem aY7:aV Tryz.prog 159 1=some (1,3):=by kernel_rfl
theorem aY8:aV Tryz.prog 159 2=some (2,3):=by kernel_rfl
theorem aY9:aV Tryz.prog 159 3=some (3,3):=by kernel_rfl
theorem aZa:aV Tryz.prog 159 4=some (4,3):=by kernel_rfl
theorem bQz:aL Tryz.prog 160=some 5:=by kernel_rfl
theorem bQ0:bH Tryz.prog 160=some 40:=by kernel_rfl
theorem bQ1:bE Tryz.prog 160=some true:=by kernel_rfl
theorem bQ2:bS Tryz.prog 160=some [(.lit (.int .i64 0)),(.lit (.int .i64 0)),(.lit (.int .i64 0)),(.lit (.int .i64 0)),(.lit (.int .i64 0))]:=by kernel_rfl
theorem bQ3:aT Tryz.prog 160=some [(0,1),(1,1),(2,1),(3,1),(4,1)]:=by kernel_rfl
theorem bQ4:cY Tryz.prog 160=none:=by kernel_rfl
theorem bQ5:aY Tryz.prog 160=none:=by kernel_rfl
theorem aZb:aV Tryz.prog 160 0=some (0,3):=by kernel_rfl
theorem aZc:aV Tryz.prog 160 1=some (1,3):=by kernel_rfl
theorem aZd:aV Tryz.prog 160 2=some (2,3):=by kernel_rfl
theorem aZe:aV Tryz.prog 160 3=some (3,3):=by kernel_rfl
theorem aZf:aV Tryz.prog 160 4=some (4,3):=by kernel_rfl
theorem bQ6:aL Tryz.prog 169=some 1:=by kernel_rfl
theorem bQ7:bH Tryz.prog 169=some 8:=by kernel_rfl
theorem bQ8:bE Tryz.prog 169=some false:=by kernel_rfl
theorem bQ9:bS Tryz.prog 169=some [(.lit (.int .u64 0))]:=by kernel_rfl
theorem bRa:aT Tryz.prog 169=none:=by kernel_rfl
theorem bRb:cY Tryz.prog 169=none:=by kernel_rfl
theorem bRc:aY Tryz.prog 169=none:=by kernel_rfl
theorem bRd:mF Tryz.prog 169=some .u64:=by kernel_rfl
theorem bRe:aL Tryz.prog 180=some 1:=by kernel_rfl
theorem bRf:bH Tryz.prog 180=some 24:=by kernel_rfl
theorem bRg:bE Tryz.prog 180=some false:=by kernel_rfl
theorem bRh:bS Tryz.prog 180=some [(.lit (.slice none 0 0))]:=by kernel_rfl
theorem bRi:aT Tryz.prog 180=none:=by kernel_rfl
theorem bRj:cY Tryz.prog 180=none:=by kernel_rfl
theorem bRk:aY Tryz.prog 180=some 47:=by kernel_rfl
theorem bRl:aL Tryz.prog 185=some 1:=by kernel_rfl
theorem bRm:bH Tryz.prog 185=some 4:=by kernel_rfl
theorem bRn:bE Tryz.prog 185=some false:=by kernel_rfl
theorem bRo:bS Tryz.prog 185=some [(.lit (.int .u32 0))]:=by kernel_rfl
theorem bRp:aT Tryz.prog 185=none:=by kernel_rfl
theorem bRq:cY Tryz.prog 185=none:=by kernel_rfl
theorem bRr:aY Tryz.prog 185=none:=by kernel_rfl
theorem bRs:mF Tryz.prog 185=some .u32:=by kernel_rfl
theorem bRt:aL Tryz.prog 186=some 1:=by kernel_rfl
theorem bRu:bH Tryz.prog 186=some 8:=by kernel_rfl
theorem bRv:bE Tryz.prog 186=some false:=by kernel_rfl
theorem bRw:bS Tryz.prog 186=some [(.lit (.int .u64 0))]:=by kernel_rfl
theorem bRx:aT Tryz.prog 186=none:=by kernel_rfl
theorem bRy:cY Tryz.prog 186=none:=by kernel_rfl
theorem bRz:aY Tryz.prog 186=none:=by kernel_rfl
theorem bR0:mF Tryz.prog 186=some .u64:=by kernel_rfl
theorem bR1:aL Tryz.prog 187=some 1:=by kernel_rfl
theorem bR2:bH Tryz.prog 187=some 24:=by kernel_rfl
theorem bR3:bE Tryz.prog 187=some false:=by kernel_rfl
theorem bR4:bS Tryz.prog 187=some [(.lit (.slice none 0 0))]:=by kernel_rfl
theorem bR5:aT Tryz.prog 187=none:=by kernel_rfl
theorem bR6:cY Tryz.prog 187=none:=by kernel_rfl
theorem bR7:aY Tryz.prog 187=some 190:=by kernel_rfl
theorem bR8:aL Tryz.prog 189=some 3:=by kernel_rfl
theorem bR9:bH Tryz.prog 189=some 24:=by kernel_rfl
theorem bSa:bE Tryz.prog 189=some true:=by kernel_rfl
theorem bSb:bS Tryz.prog 189=some [(.lit (.int .i64 0)),(.lit (.int .i64 0)),(.lit (.int .i64 0))]:=by kernel_rfl
theorem bSc:aT Tryz.prog 189=some [(0,1),(1,1),(2,1)]:=by kernel_rfl
theorem bSd:cY Tryz.prog 189=none:=by kernel_rfl
theorem bSe:aY Tryz.prog 189=none:=by kernel_rfl
theorem aZg:aV Tryz.prog 189 0=some (0,3):=by kernel_rfl
theorem aZh:aV Tryz.prog 189 1=some (1,3):=by kernel_rfl
theorem aZi:aV Tryz.prog 189 2=some (2,3):=by kernel_rfl
theorem bSf:aL Tryz.prog 190=some 3:=by kernel_rfl
theorem bSg:bH Tryz.prog 190=some 24:=by kernel_rfl
theorem bSh:bE Tryz.prog 190=some true:=by kernel_rfl
theorem bSi:bS Tryz.prog 190=some [(.lit (.int .i64 0)),(.lit (.int .i64 0)),(.lit (.int .i64 0))]:=by kernel_rfl
theorem bSj:aT Tryz.prog 190=some [(0,1),(1,1),(2,1)]:=by kernel_rfl
theorem bSk:cY Tryz.prog 190=none:=by kernel_rfl
theorem bSl:aY Tryz.prog 190=none:=by kernel_rfl
theorem aZj:aV Tryz.prog 190 0=some (0,3):=by kernel_rfl
theorem aZk:aV Tryz.prog 190 1=some (1,3):=by kernel_rfl
theorem aZl:aV Tryz.prog 190 2=some (2,3):=by kernel_rfl
theorem bSm:aL Tryz.prog 218=some 1:=by kernel_rfl
theorem bSn:bH Tryz.prog 218=some 24:=by kernel_rfl
theorem bSo:bE Tryz.prog 218=some false:=by kernel_rfl
theorem bSp:bS Tryz.prog 218=some [(.lit (.slice none 0 0))]:=by kernel_rfl
theorem bSq:aT Tryz.prog 218=none:=by kernel_rfl
theorem bSr:cY Tryz.prog 218=none:=by kernel_rfl
theorem bSs:aY Tryz.prog 218=some 221:=by kernel_rfl
theorem bSt:aL Tryz.prog 220=some 2:=by kernel_rfl
theorem bSu:bH Tryz.prog 220=some 16:=by kernel_rfl
theorem bSv:bE Tryz.prog 220=some true:=by kernel_rfl
theorem bSw:bS Tryz.prog 220=some [(.lit (.int .i64 0)),(.lit (.int .i64 0))]:=by kernel_rfl
theorem bSx:aT Tryz.prog 220=some [(0,1),(1,1)]:=by kernel_rfl
theorem bSy:cY Tryz.prog 220=none:=by kernel_rfl
theorem bSz:aY Tryz.prog 220=none:=by kernel_rfl
theorem aZm:aV Tryz.prog 220 0=some (0,3):=by kernel_rfl
theorem aZn:aV Tryz.prog 220 1=some (1,3):=by kernel_rfl
theorem bS0:aL Tryz.prog 221=some 2:=by kernel_rfl
theorem bS1:bH Tryz.prog 221=some 16:=by kernel_rfl
theorem bS2:bE Tryz.prog 221=some true:=by kernel_rfl
theorem bS3:bS Tryz.prog 221=some [(.lit (.int .i64 0)),(.lit (.int .i64 0))]:=by kernel_rfl
theorem bS4:aT Tryz.prog 221=some [(0,1),(1,1)]:=by kernel_rfl
theorem bS5:cY Tryz.prog 221=none:=by kernel_rfl
theorem bS6:aY Tryz.prog 221=none:=by kernel_rfl
theorem aZo:aV Tryz.prog 221 0=some (0,3):=by kernel_rfl
theorem aZp:aV Tryz.prog 221 1=some (1,3):=by kernel_rfl
theorem bS7:aL Tryz.prog 240=some 2:=by kernel_rfl
theorem bS8:bH Tryz.prog 240=some 16:=by kernel_rfl
theorem bS9:bE Tryz.prog 240=some true:=by kernel_rfl
theorem bTa:bS Tryz.prog 240=some [(.lit (.int .i64 0)),(.lit (.int .i64 0))]:=by kernel_rfl
theorem bTb:aT Tryz.prog 240=some [(0,1),(1,1)]:=by kernel_rfl
theorem bTc:cY Tryz.prog 240=none:=by kernel_rfl
theorem bTd:aY Tryz.prog 240=none:=by kernel_rfl
theorem aZq:aV Tryz.prog 240 0=some (0,3):=by kernel_rfl
theorem aZr:aV Tryz.prog 240 1=some (1,3):=by kernel_rfl
theorem bTe:aL Tryz.prog 241=some 2:=by kernel_rfl
theorem bTf:bH Tryz.prog 241=some 16:=by kernel_rfl
theorem bTg:bE Tryz.prog 241=some true:=by kernel_rfl
theorem bTh:bS Tryz.prog 241=some [(.lit (.int .i64 0)),(.lit (.int .i64 0))]:=by kernel_rfl
theorem bTi:aT Tryz.prog 241=some [(0,1),(1,1)]:=by kernel_rfl
theorem bTj:cY Tryz.prog 241=none:=by kernel_rfl
theorem bTk:aY Tryz.prog 241=none:=by kernel_rfl
theorem aZs:aV Tryz.prog 241 0=some (0,3):=by kernel_rfl
theorem aZt:aV Tryz.prog 241 1=some (1,3):=by kernel_rfl
theorem bTl:aL Tryz.prog 244=some 1:=by kernel_rfl
theorem bTm:bH Tryz.prog 244=some 24:=by kernel_rfl
theorem bTn:bE Tryz.prog 244=some false:=by kernel_rfl
theorem bTo:bS Tryz.prog 244=some [(.lit (.slice none 0 0))]:=by kernel_rfl
theorem bTp:aT Tryz.prog 244=none:=by kernel_rfl
theorem bTq:cY Tryz.prog 244=none:=by kernel_rfl
theorem bTr:aY Tryz.prog 244=some 241:=by kernel_rfl
theorem bTs:aL Tryz.prog 245=some 64:=by kernel_rfl
theorem bTt:bH Tryz.prog 245=some 64:=by kernel_rfl
theorem bTu:bE Tryz.prog 245=some true:=by kernel_rfl
theorem bTv:bS Tryz.prog 245=some [(.lit (.int .u8 0)),(.lit (.int .u8 0)),(.lit (.int .u8 0)),(.lit (.int .u8 0)),(.lit (.int .u8 0)),(.lit (.int .u8 0)),(.lit (.int .u8 0)),(.lit (.int .u8 0)),(.lit (.int .u8 0)),(.lit (.int .u8 0)),(.lit (.int .u8 0)),(.lit (.int .u8 0)),(.lit (.int .u8 0)),(.lit (.int .u8 0)),(.lit (.int .u8 0)),(.lit (.int .u8 0)),(.lit (.int .u8 0)),(.lit (.int .u8 0)),(.lit (.int .u8 0)),(.lit (.int .u8 0)),(.lit (.int .u8 0)),(.lit (.int .u8 0)),(.lit (.int .u8 0)),(.lit (.int .u8 0)),(.lit (.int .u8 0)),(.lit (.int .u8 0)),(.lit (.int .u8 0)),(.lit (.int .u8 0)),(.lit (.int .u8 0)),(.lit (.int .u8 0)),(.lit (.int .u8 0)),(.lit (.int .u8 0)),(.lit (.int .u8 0)),(.lit (.int .u8 0)),(.lit (.int .u8 0)),(.lit (.int .u8 0)),(.lit (.int .u8 0)),(.lit (.int .u8 0)),(.lit (.int .u8 0)),(.lit (.int .u8 0)),(.lit (.int .u8 0)),(.lit (.int .u8 0)),(.lit (.int .u8 0)),(.lit (.int .u8 0)),(.lit (.int .u8 0)),(.lit (.int .u8 0)),(.lit (.int .u8 0)),(.lit (.int .u8 0)),(.lit (.int .u8 0)),(.lit (.int .u8 0)),(.lit (.int .u8 0)),(.lit (.int .u8 0)),(.lit (.int .u8 0)),(.lit (.int .u8 0)),(.lit (.int .u8 0)),(.lit (.int .u8 0)),(.lit (.int .u8 0)),(.lit (.int .u8 0)),(.lit (.int .u8 0)),(.lit (.int .u8 0)),(.lit (.int .u8 0)),(.lit (.int .u8 0)),(.lit (.int .u8 0)),(.lit (.int .u8 0))]:=by kernel_rfl
theorem bTw:aT Tryz.prog 245=none:=by kernel_rfl
theorem bTx:aY Tryz.prog 245=none:=by kernel_rfl
theorem bTy:cY Tryz.prog 245=some (64,5):=by kernel_rfl
theorem bTz:aL Tryz.prog 253=some 2:=by kernel_rfl
theorem bT0:bH Tryz.prog 253=some 32:=by kernel_rfl
theorem bT1:bE Tryz.prog 253=some true:=by kernel_rfl
theorem bT2:bS Tryz.prog 253=some [(.lit (.slice none 0 0)),(.lit (.int .i64 0))]:=by kernel_rfl
theorem bT3:aT Tryz.prog 253=some [(0,1),(1,1)]:=by kernel_rfl
theorem bT4:cY Tryz.prog 253=none:=by kernel_rfl
theorem bT5:aY Tryz.prog 253=none:=by kernel_rfl
theorem aZu:aV Tryz.prog 253 0=some (0,180):=by kernel_rfl
theorem aZv:aV Tryz.prog 253 1=some (1,3):=by kernel_rfl
theorem bT6:aL Tryz.prog 338=some 0:=by kernel_rfl
theorem bT7:bH Tryz.prog 338=some 0:=by kernel_rfl
theorem bT8:bE Tryz.prog 338=some true:=by kernel_rfl
theorem bT9:bS Tryz.prog 338=some []:=by kernel_rfl
theorem bUa:aT Tryz.prog 338=none:=by kernel_rfl
theorem bUb:aY Tryz.prog 338=none:=by kernel_rfl
theorem bUc:cY Tryz.prog 338=some (0,16):=by kernel_rfl
theorem bUd:aL Tryz.prog 349=some 1:=by kernel_rfl
theorem bUe:bH Tryz.prog 349=some 16:=by kernel_rfl
theorem bUf:bE Tryz.prog 349=some true:=by kernel_rfl
theorem bUg:bS Tryz.prog 349=some [(.lit (.string ByteArray.empty))]:=by kernel_rfl
theorem bUh:aT Tryz.prog 349=some [(0,1)]:=by kernel_rfl
theorem bUi:cY Tryz.prog 349=none:=by kernel_rfl
theorem bUj:aY Tryz.prog 349=none:=by kernel_rfl
theorem aZw:aV Tryz.prog 349 0=some (0,9):=by kernel_rfl
def tyA:=
 (nd (nd (nd (nd (nd (nd (nd (nd cJb (nd cJc cJd)) (nd (nd cJe cJf) (nd cJg cJh))) (nd (nd cJi (nd bPq bPr)) (nd (nd cJj bPs) (nd cJk cJl)))) (nd (nd (nd cJm (nd cJn cJo)) (nd (nd cJp cJq) (nd cJr cJs))) (nd (nd cJt (nd cJu cJv)) (nd (nd cJw cJx) (nd cJy cJz))))) (nd (nd (nd (nd cJ0 (nd cJ1 cJ2)) (nd (nd cJ3 cJ4) (nd cJ5 cJ6))) (nd (nd cJ7 (nd cJ8 cJ9)) (nd (nd cKa bX8) (nd bX9 bYa)))) (nd (nd (nd bYb (nd bYc bYd)) (nd (nd bYe bYf) (nd bYg bYh))) (nd (nd bYi (nd bYj bYk)) (nd (nd bYl bYm) (nd bFz bF0)))))) (nd (nd (nd (nd (nd bYn (nd bYo bYp)) (nd (nd bYq bYr) (nd bYs bYt))) (nd (nd bYu (nd bYv bYw)) (nd (nd bYx bYy) (nd bYz bY0)))) (nd (nd (nd aY3 (nd bY1 bY2)) (nd (nd bY3 bY4) (nd bY5 bY6))) (nd (nd bY7 (nd bF1 bF2)) (nd (nd bY8 bY9) (nd bZa bZb))))) (nd (nd (nd (nd bZc (nd bZd bZe)) (nd (nd bF3 bF4) (nd bZf bZg))) (nd (nd bZh (nd bZi bZj)) (nd (nd bZk bZl) (nd bZm bZn)))) (nd (nd (nd bZo (nd bZp bZq)) (nd (nd bZr bZs) (nd bZt bZu))) (nd (nd bZv (nd bZw bZx)) (nd (nd bZy bZz) (nd bZ0 bZ1))))))) (nd (nd (nd (nd (nd (nd bZ2 (nd bZ3 bZ4)) (nd (nd bZ5 bZ6) (nd bZ7 bZ8))) (nd (nd bZ9 (nd cAa cAb)) (nd (nd cAc cAd) (nd cAe bF5)))) (nd (nd (nd bF6 (nd cAf cAg)) (nd (nd cAh cAi) (nd cAj cAk))) (nd (nd cAl (nd bF7 bF8)) (nd (nd cAm cAn) (nd cAo cAp))))) (nd (nd (nd (nd cAq (nd cAr cAs)) (nd (nd bF9 bGa) (nd cAt cAu))) (nd (nd cAv (nd cAw cAx)) (nd (nd cAy cAz) (nd bGb bGc)))) (nd (nd (nd cA0 (nd cA1 cA2)) (nd (nd cA3 cA4) (nd cA5 cA6))) (nd (nd bGd (nd bGe bGf)) (nd (nd cA7 cA8) (nd cA9 cBa)))))) (nd (nd (nd (nd (nd cBb (nd cBc cBd)) (nd (nd bGg bGh) (nd bGi cBe))) (nd (nd cBf (nd cBg cBh)) (nd (nd cBi cBj) (nd cBk cBl)))) (nd (nd (nd cBm (nd cBn cBo)) (nd (nd cBp cBq) (nd cBr bGj))) (nd (nd bGk (nd bGl cBs)) (nd (nd cBt cBu) (nd cBv cBw))))) (nd (nd (nd (nd cBx (nd cBy cBz)) (nd (nd cB0 cB1) (nd cB2 cB3))) (nd (nd cB4 (nd cB5 bGm)) (nd (nd bGn cB6) (nd cB7 cB8)))) (nd (nd (nd cB9 (nd cCa cCb)) (nd (nd cCc bGo) (nd bGp bGq))) (nd (nd cCd (nd cCe cCf)) (nd (nd cCg cCh) (nd cCi cCj)))))))) (nd (nd (nd (nd (nd (nd (nd bGr (nd bGs bGt)) (nd (nd cCk cCl) (nd cCm cCn))) (nd (nd cCo (nd cCp cCq)) (nd (nd cCr cCs) (nd cCt cCu)))) (nd (nd (nd cCv (nd cCw cCx)) (nd (nd cCy cCz) (nd cC0 cC1))) (nd (nd cC2 (nd cC3 cC4)) (nd (nd bPt bPu) (nd bPv bPw))))) (nd (nd (nd (nd bPx (nd bPy bPz)) (nd (nd aY4 bP0) (nd bP1 bP2))) (nd (nd bP3 (nd bP4 bP5)) (nd (nd bP6 aY5) (nd bP7 bP8)))) (nd (nd (nd bP9 (nd bQa bQb)) (nd (nd bQc bQd) (nd bQe bQf))) (nd (nd bQg (nd bQh bQi)) (nd (nd bQj bQk) (nd bQl bQm)))))) (nd (nd (nd (nd (nd bQn (nd bQo bQp)) (nd (nd bQq bQr) (nd bQs bQt))) (nd (nd bQu (nd bQv bQw)) (nd (nd bQx bQy) (nd aY6 aY7)))) (nd (nd (nd aY8 (nd aY9 aZa)) (nd (nd bQz bQ0) (nd bQ1 bQ2))) (nd (nd bQ3 (nd bQ4 bQ5)) (nd (nd aZb aZc) (nd aZd aZe))))) (nd (nd (nd (nd aZf (nd bQ6 bQ7)) (nd (nd bQ8 bQ9) (nd bRa bRb))) (nd (nd bRc (nd bRd bRe)) (nd (nd bRf bRg) (nd bRh bRi)))) (nd (nd (nd bRj (nd bRk bRl)) (nd (nd bRm bRn) (nd bRo bRp))) (nd (nd bRq (nd bRr bRs)) (nd (nd bRt bRu) (nd bRv bRw))))))) (nd (nd (nd (nd (nd (nd bRx (nd bRy bRz)) (nd (nd bR0 bR1) (nd bR2 bR3))) (nd (nd bR4 (nd bR5 bR6)) (nd (nd bR7 bR8) (nd bR9 bSa)))) (nd (nd (nd bSb (nd bSc bSd)) (nd (nd bSe aZg) (nd aZh aZi))) (nd (nd bSf (nd bSg bSh)) (nd (nd bSi bSj) (nd bSk bSl))))) (nd (nd (nd (nd aZj (nd aZk aZl)) (nd (nd bSm bSn) (nd bSo bSp))) (nd (nd bSq (nd bSr bSs)) (nd (nd bSt bSu) (nd bSv bSw)))) (nd (nd (nd bSx (nd bSy bSz)) (nd (nd aZm aZn) (nd bS0 bS1))) (nd (nd bS2 (nd bS3 bS4)) (nd (nd bS5 bS6) (nd aZo aZp)))))) (nd (nd (nd (nd (nd bS7 (nd bS8 bS9)) (nd (nd bTa bTb) (nd bTc bTd))) (nd (nd aZq (nd aZr bTe)) (nd (nd bTf bTg) (nd bTh bTi)))) (nd (nd (nd bTj (nd bTk aZs)) (nd (nd aZt bTl) (nd bTm bTn))) (nd (nd bTo (nd bTp bTq)) (nd (nd bTr bTs) (nd bTt bTu))))) (nd (nd (nd (nd bTv (nd bTw bTx)) (nd (nd bTy bTz) (nd bT0 bT1))) (nd (nd bT2 (nd bT3 bT4)) (nd (nd bT5 aZu) (nd aZv bT6)))) (nd (nd (nd bT7 (nd bT8 bT9)) (nd (nd bUa bUb) (nd bUc bUd))) (nd (nd bUe (nd bUf bUg)) (nd (nd bUh bUi) (nd bUj aZw)))))))))
def smY:=nd smZ tyA
end
section
open Go Go.Lg
def aG2:List Nat:=[0,1,56,2,57,49,28,3,61,58,42,50,38,29,17,4,62,47,59,36,45,43,51,22,53,39,33,30,24,18,12,5,63,55,48,27,60,41,37,16,46,35,44,21,52,32,23,11,54,26,40,15,34,20,31,10,25,14,19,9,13,8,7,6]
def Tryz.laid:List (Nat×List Value):=[(0,aG2.map fun(n:Nat)=>Value.int .u8 (n:Int))]
instance:Laid Tryz.prog:={mem:=Tryz.laid}
end
end Go.Proofs.YtaidcaemdkncgaaGreatDoor
namespace Go.Num
def val:List Nat→Nat
 |[]=>0
 |d::ds=>d+4294967296*val ds
def OkD (ds:List Nat):Prop:=∀ d∈ds,d<4294967296
theorem OkD.nil:OkD []:=by simp[OkD]
theorem OkD.cons {d:Nat}{ds:List Nat}(h:d<4294967296) (hs:OkD ds):OkD (d::ds):=by
 intro x hx
 rcases List.mem_cons.1 hx with rfl |hx
 ·exact h
 ·exact hs x hx
theorem OkD.head {d:Nat}{ds:List Nat}(h:OkD (d::ds)):d<4294967296:=h d (by simp)
theorem OkD.tail {d:Nat}{ds:List Nat}(h:OkD (d::ds)):OkD ds:=fun x hx=>h x (by simp[hx])
theorem OkD.append {a b:List Nat}(ha:OkD a) (hb:OkD b):OkD (a++b):=fun x hx=>(List.mem_append.1 hx).elim (ha x) (hb x)
theorem OkD.take {a:List Nat}(ha:OkD a) (k:Nat):OkD (a.take k):=fun x hx=>ha x (List.mem_of_mem_take hx)
theorem OkD.drop {a:List Nat}(ha:OkD a) (k:Nat):OkD (a.drop k):=fun x hx=>ha x (List.mem_of_mem_drop hx)
theorem OkD.getD {a:List Nat}(ha:OkD a) (k:Nat):a.getD k 0<4294967296:=by
 rw[List.getD_eq_getElem?_getD]
 cases h:a[k]? with
 |none=>simp
 |some x=>exact ha x (List.mem_of_getElem? h)
theorem OkD.replicate (n:Nat):OkD (List.replicate n 0):=fun x hx=>by rw[(List.mem_replicate.1 hx).2];omega
theorem qZ (a b:List Nat):val (a++b)=val a+4294967296^a.length*val b:=by
 induction a with
 |nil=>simp[val]
 |cons d a ih=>
  simp only[List.cons_append,val,ih,List.length_cons,Nat.pow_succ,Nat.mul_add]
  rw[← Nat.mul_assoc,Nat.mul_comm (4294967296^a.length) 4294967296]
  omega
theorem gB (n:Nat):val (List.replicate n 0)=0:=by
 induction n with
 |zero=>rfl
 |succ n ih=>simp[List.replicate_succ,val,ih]
theorem dH (a:List Nat) (d:Nat):val (a++[d])=val a+4294967296^a.length*d:=by
 rw[qZ];simp[val]
theorem jA {a:List Nat}(h:OkD a):val a<4294967296^a.length:=by
 induction a with
 |nil=>simp[val]
 |cons d a ih=>
  have h1:=ih h.tail
  have h2:=h.head
  simp only[val,List.length_cons,Nat.pow_succ]
  generalize 4294967296^a.length=p at h1
  have:val a+1≤p:=h1
  have:=Nat.mul_le_mul_left 4294967296 this
  omega
theorem eJ {a:List Nat}{k:Nat}(h:k<a.length):a.take (k+1)=a.take k++[a.getD k 0]:=by
 rw[List.take_succ_eq_append_getElem h]
 simp[List.getD,h]
theorem aF8 {a:List Nat}{k:Nat}(h:k<a.length):val (a.take (k+1))=val (a.take k)+4294967296^k*a.getD k 0:=by
 rw[eJ h,dH,List.length_take,Nat.min_eq_left (Nat.le_of_lt h)]
theorem jE (a:List Nat) (k:Nat) (h:k≤a.length):val a=val (a.take k)+4294967296^k*val (a.drop k):=by
 conv=>lhs;rw[← List.take_append_drop k a]
 rw[qZ,List.length_take,Nat.min_eq_left h]
theorem fL {a:List Nat}{k:Nat}(h:k<a.length):a.drop k=a.getD k 0::a.drop (k+1):=by
 rw[List.drop_eq_getElem_cons h]
 simp[List.getD,h]
def aC (n:Nat):List Nat:=if n=0 then[]else n % 4294967296::aC (n / 4294967296)
termination_by n
decreasing_by omega
theorem aX:aC 0=[]:=by rw[aC];simp
theorem jO {n:Nat}(h:n≠0):aC n=n % 4294967296::aC (n / 4294967296):=by
 conv=>lhs;rw[aC]
 simp[h]
theorem eN {n:Nat}(h0:n≠0) (h:n<4294967296):aC n=[n]:=by
 rw[jO h0,Nat.div_eq_of_lt h,aX,Nat.mod_eq_of_lt h]
theorem aS (n:Nat):OkD (aC n):=by
 induction n using Nat.strongRecOn with
 |_ n ih=>
  by_cases h:n=0
  · subst h;rw[aX];exact OkD.nil
  · rw[jO h]
    exact OkD.cons (Nat.mod_lt _ (by omega)) (ih _ (by omega))
theorem aJ (n:Nat):val (aC n)=n:=by
 induction n using Nat.strongRecOn with
 |_ n ih=>
  by_cases h:n=0
  · subst h;rw[aX];rfl
  · rw[jO h,val,ih _ (by omega)]
    omega
theorem bO {n:Nat}:aC n=[]↔n=0:=by
 constructor
 ·intro h
  have:=aJ n
  rw[h]at this
  exact this.symm
 ·rintro rfl;exact aX
theorem vX:∀ {a:List Nat},val a=0→∀ d∈a,d=0
 |[],_,d,hd=>by simp at hd
 |x::a,h,d,hd=>by
  simp only[val]at h
  rcases List.mem_cons.1 hd with rfl |hd
  · omega
  · exact vX (a:=a) (by omega) d hd
theorem pL:∀ {a:List Nat},OkD a→(∀ h:a≠[],a.getLast h≠0)→aC (val a)=a
 |[],_,_=>aX
 |d::a,hok,hl=>by
  have h2:=hok.head
  cases a with
  |nil=>
   have hd:d≠0:=by simpa using hl (by simp)
   simp only[val,Nat.mul_zero,Nat.add_zero]
   exact eN hd h2
  |cons e a=>
   have hl':∀ h:(e::a)≠[],(e::a).getLast h≠0:=fun h=>by
     have:=hl (by simp)
     rwa [List.getLast_cons h]at this
   have ih:=pL hok.tail hl'
   have hpos:val (e::a)≠0:=fun hz=>hl' (by simp) (vX hz _ (List.getLast_mem (by simp)))
   have hv:val (d::e::a)=d+4294967296*val (e::a):=rfl
   rw[hv,jO (by omega),show(d+4294967296*val (e::a)) % 4294967296=d by omega,show(d+4294967296*val (e::a)) / 4294967296=val (e::a)by omega,ih]
def lN (ds:List Nat):List Nat:=(ds.reverse.dropWhile (· ==0)).reverse
theorem sO (ds:List Nat):lN (ds++[0])=lN ds:=by simp[lN]
theorem aDu {ds:List Nat}{d:Nat}(h:d≠0):lN (ds++[d])=ds++[d]:=by simp[lN,h]
theorem sP {ds:List Nat}{k:Nat}(hk:k<ds.length) (h0:ds.getD k 0=0):lN (ds.take (k+1))=lN (ds.take k):=by
 rw[eJ hk,h0,sO]
theorem vY {ds:List Nat}{k:Nat}(hk:k<ds.length) (h0:ds.getD k 0≠0):lN (ds.take (k+1))=ds.take (k+1):=by
 rw[eJ hk,aDu h0]
theorem aDv {ds:List Nat}(h:OkD ds):lN ds=aC (val ds):=by
 have key:∀ (n:Nat) (ds:List Nat),ds.length=n→OkD ds→lN ds=aC (val ds):=by
  intro n
  induction n with
  |zero=>
   intro ds hl _
   have:ds=[]:=List.eq_nil_of_length_eq_zero hl
   subst this
   simp[lN,val,aX]
  |succ n ih=>
   intro ds hl hok
   have e:ds=ds.take n++[ds.getD n 0]:=by rw[← eJ (by omega),List.take_of_length_le (by omega)]
   by_cases h0:ds.getD n 0=0
   · rw[e,h0,sO,dH,Nat.mul_zero,Nat.add_zero]
     exact ih _ (by rw[List.length_take];omega) (hok.take n)
   · rw[e,aDu h0,← e]
     refine(pL hok fun hne=> ?_).symm
     have:ds.getLast hne=ds.getD n 0:=by
       rw[List.getLast_eq_getElem]
       simp[List.getD,hl]
     rw[this];exact h0
 exact key _ ds rfl h
theorem bT {n k:Nat}(h:n<4294967296^k):(aC n).length≤k:=by
 induction k generalizing n with
 |zero=>
  have:n=0:=by simpa using h
  subst this;rw[aX];simp
 |succ k ih=>
  by_cases h0:n=0
  · subst h0;rw[aX];simp
  · rw[jO h0,List.length_cons]
    have:n / 4294967296<4294967296^k:=by
      rw[Nat.pow_succ]at h
      exact Nat.div_lt_of_lt_mul (by rw[Nat.mul_comm];exact h)
    have:=ih this
    omega
theorem bM (n:Nat):n<4294967296^(aC n).length:=by
 have:=jA (aS n)
 rwa [aJ]at this
theorem oR {n:Nat}(h:n≠0):4294967296^((aC n).length-1)≤n:=by
 rcases Nat.lt_or_ge n (4294967296^((aC n).length-1))with hlt |hge
 ·have h1:=bT hlt
  have h2:(aC n).length≠0:=fun e=>h (bO.1 (List.eq_nil_of_length_eq_zero e))
  omega
 ·exact hge
theorem fU {n m:Nat}(h:(aC n).length<(aC m).length):n<m:=by
 have h0:m≠0:=fun e=>by subst e;rw[aX]at h;simp at h
 exact Nat.lt_of_lt_of_le (bM n) (Nat.le_trans (Nat.pow_le_pow_right (by omega) (by omega)) (oR h0))
theorem bJ {n m:Nat}(h:n≤m):(aC n).length≤(aC m).length:=by
 rcases Nat.lt_or_ge (aC m).length (aC n).length with hlt |hge
 ·have:=fU hlt;omega
 ·exact hge
theorem tF {ds:List Nat}(h:OkD ds):(aC (val ds)).length≤ds.length:=bT (jA h)
theorem aAg {n:Nat}(h:n≠0):(aC n).getD ((aC n).length-1) 0≠0:=by
 intro h0
 have hlen:(aC n).length≠0:=fun e=>h (bO.1 (List.eq_nil_of_length_eq_zero e))
 have h1:=jE (aC n) ((aC n).length-1) (by omega)
 rw[fL (by omega),h0]at h1
 have h2:(aC n).drop ((aC n).length-1+1)=[]:=by simp;omega
 rw[h2,aJ]at h1
 simp only[val,Nat.mul_zero,Nat.add_zero]at h1
 have h3:=jA ((aS n).take ((aC n).length-1))
 have h4:=oR h
 rw[List.length_take,Nat.min_eq_left (by omega)]at h3
 omega
def wS (n m:Nat):Int:=if n<m then -1 else if n=m then 0 else 1
theorem aIz {a b:List Nat}{k:Nat}(ha:OkD a) (hl:a.length=b.length) (hk:k<a.length) (hd:a.drop (k+1)=b.drop (k+1)) (hlt:a.getD k 0<b.getD k 0):val a<val b:=by
 have h1:=jE a k (by omega)
 have h2:=jE b k (by omega)
 rw[fL (by omega),val]at h1
 rw[fL (by omega),val,← hd]at h2
 have h3:=jA (ha.take k)
 rw[List.length_take,Nat.min_eq_left (by omega)]at h3
 rw[h1,h2]
 generalize 4294967296^k=p at*
 generalize val (List.drop (k+1) a)=q at*
 have h4:p*(a.getD k 0+4294967296*q)+p≤p*(b.getD k 0+4294967296*q):=by
  have:p*(a.getD k 0+4294967296*q)+p=p*(a.getD k 0+1+4294967296*q):=by
   rw[Nat.add_right_comm,Nat.mul_add p _ 1,Nat.mul_one]
  rw[this]
  exact Nat.mul_le_mul_left _ (by omega)
 omega
theorem aL5:∀ {a b:List Nat},OkD a→OkD b→a.length=b.length→val a=val b→a=b
 |[],[],_,_,_,_=>rfl
 |[],_::_,_,_,hl,_=>by simp at hl
 |_::_,[],_,_,hl,_=>by simp at hl
 |x::a,y::b,ha,hb,hl,hv=>by
  have h1:=ha.head
  have h2:=hb.head
  simp only[val]at hv
  have:x=y:=by omega
  subst this
  rw[aL5 ha.tail hb.tail (by simpa using hl) (by omega)]
def iR:Nat→Nat→List Nat
 |0,_=>[]
 |k+1,v=>v % 4294967296::iR k (v / 4294967296)
theorem bN (k:Nat):∀ v,(iR k v).length=k:=by
 induction k with
 |zero=>intro v;rfl
 |succ k ih=>intro v;simp[iR,ih]
theorem fF (k:Nat):∀ v,OkD (iR k v):=by
 induction k with
 |zero=>intro v;exact OkD.nil
 |succ k ih=>intro v;exact OkD.cons (by omega) (ih _)
theorem dZ {k:Nat}:∀ {v:Nat},v<4294967296^k→val (iR k v)=v:=by
 induction k with
 |zero=>intro v h;have:v=0:=by simpa using h
        subst this;rfl
 |succ k ih=>
  intro v h
  rw[iR,val,ih (by rw[Nat.pow_succ]at h;omega)]
  omega
theorem gJ {r:List Nat}{v k:Nat}(h:OkD r) (hl:r.length=k) (hv:val r=v):r=iR k v:=by
 subst hl;subst hv
 exact aL5 h (fF _ _) (bN _ _).symm (dZ (jA h)).symm
theorem aD (a:List Nat) (k:Nat):val (a.take (k+1))=val (a.take k)+4294967296^k*a.getD k 0:=by
 rcases Nat.lt_or_ge k a.length with h |h
 ·exact aF8 h
 ·rw[List.take_of_length_le (by omega),List.take_of_length_le h]
  have:a.getD k 0=0:=by simp[List.getD,h]
  rw[this];omega
theorem cA {r:List Nat}{k d:Nat}(h:k<r.length):val ((r.set k d).take (k+1))=val (r.take k)+4294967296^k*d:=by
 rw[aD]
 have h1:(r.set k d).getD k 0=d:=by simp[List.getD,h]
 rw[h1]
 simp[List.take_set_of_le]
theorem OkD.set {r:List Nat}(h:OkD r) {k d:Nat}(hd:d<4294967296):OkD (r.set k d):=by
 intro x hx
 rcases List.mem_or_eq_of_mem_set hx with hx |rfl
 ·exact h x hx
 ·exact hd
theorem gU {v p c A B x y s:Nat}(h:v+p*c=A+B) (hs:s=x+y+c):v+p*(s % 4294967296)+p*4294967296*(s / 4294967296)=(A+p*x)+(B+p*y):=by
 have h1:s % 4294967296+4294967296*(s / 4294967296)=x+y+c:=by omega
 have h2:p*(s % 4294967296)+p*4294967296*(s / 4294967296)=p*x+p*y+p*c:=by
  rw[Nat.mul_assoc,← Nat.mul_add,h1,Nat.mul_add,Nat.mul_add]
 omega
theorem iS {v p c c' A B x y d:Nat}(h:v+B=A+p*c) (hs:d+y+c=x+4294967296*c'):v+p*d+(B+p*y)=(A+p*x)+p*4294967296*c':=by
 have h2:p*d+p*y+p*c=p*x+p*4294967296*c':=by
  rw[Nat.mul_assoc,← Nat.mul_add,← Nat.mul_add,← Nat.mul_add,hs,Nat.mul_add]
 omega
theorem mZ {x y:Nat}(hx:x<4294967296) (hy:y<4294967296):x*y≤18446744065119617025:=
 Nat.le_trans (Nat.mul_le_mul (show x≤4294967295 by omega) (show y≤4294967295 by omega)) (by omega)
theorem aDw {v p c A q x y z X s:Nat}(h:v+p*q*c=A+p*x*X) (hs:s=x*y+z+c):v+p*q*(s % 4294967296)+p*q*4294967296*(s / 4294967296)=(A+p*q*z)+p*x*(X+q*y):=by
 have h1:s % 4294967296+4294967296*(s / 4294967296)=x*y+z+c:=by omega
 have h2:p*q*(s % 4294967296)+p*q*4294967296*(s / 4294967296)=p*q*(x*y)+p*q*z+p*q*c:=by
  rw[Nat.mul_assoc (p*q) 4294967296,← Nat.mul_add,h1,Nat.mul_add,Nat.mul_add]
 have h3:p*q*(x*y)=p*x*(q*y):=by ac_rfl
 rw[Nat.mul_add (p*x)]
 omega
theorem rA {a b:List Nat}{k:Nat}(h:a.drop k=b.drop k):a.getD k 0=b.getD k 0:=by
 have h1:(a.drop k).head? =(b.drop k).head? :=by rw[h]
 rw[List.head?_drop,List.head?_drop]at h1
 rw[List.getD_eq_getElem?_getD,List.getD_eq_getElem?_getD,h1]
theorem pM {r a:List Nat}{k d:Nat}(h:r.drop k=a.drop k):(r.set k d).drop (k+1)=a.drop (k+1):=by
 rw[List.drop_set_of_lt (by omega),← List.drop_drop,h,List.drop_drop]
theorem vZ {q:List Nat}{k d:Nat}(h:k<q.length):(q.set k d).drop k=d::q.drop (k+1):=by
 rw[fL (by simpa using h)]
 have h1:(q.set k d).getD k 0=d:=by simp[List.getD,h]
 rw[h1,List.drop_set_of_lt (by omega)]
theorem aPi {H x d:Nat}(hd:0<d):(x+4294967296*H) / d=(H % d*4294967296+x) / d+4294967296*(H / d)∧(x+4294967296*H) % d=(H % d*4294967296+x) % d:=by
 have h1:x+4294967296*H=(H % d*4294967296+x)+d*(4294967296*(H / d)):=by
  have h2:d*(4294967296*(H / d))=4294967296*(d*(H / d)):=by ac_rfl
  have h3:=Nat.div_add_mod H d
  rw[h2]
  omega
 rw[h1]
 exact⟨Nat.add_mul_div_left _ _ hd,Nat.add_mul_mod_self_left _ _ _⟩
theorem aG3 {s:Nat}(h:s<32):∃ t,4294967296=2^s*t∧2^s*2≤4294967296:=by
 refine⟨2^(32-s),?_,?_⟩
 ·rw[← Nat.pow_add,show s+(32-s)=32 by omega]
 ·rw[← Nat.pow_succ]
  exact Nat.le_trans (Nat.pow_le_pow_right (by omega) (show s+1≤32 by omega)) (by omega)
theorem aI0 {x s:Nat}(hx:x<4294967296) (hs:s<32):∃ y,x*2^s % 4294967296=2^s*y∧2^s*y+2^s≤4294967296∧x*2^s / 4294967296<2^s∧x*2^s<9223372036854775808:=by
 obtain⟨t,ht,hle⟩:=aG3 hs
 have hp:0<2^s:=Nat.pos_of_ne_zero (by simp)
 have h0:x*2^s % 4294967296=2^s*(x % t):=by
  conv=>lhs;rw[ht,Nat.mul_comm x]
  exact Nat.mul_mod_mul_left _ _ _
 have ht0:0<t:=by
  rcases Nat.eq_zero_or_pos t with h |h
  ·subst h;simp at ht
  ·exact h
 refine⟨x % t,h0,?_,?_,?_⟩
 ·have:=Nat.mul_le_mul_left (2^s) (show x % t+1≤t from Nat.mod_lt _ ht0)
  rw[← ht,Nat.mul_add,Nat.mul_one]at this
  exact this
 ·refine Nat.div_lt_of_lt_mul ?_
  exact Nat.mul_lt_mul_of_pos_right hx hp
 ·have h1:2^s≤2147483648:=by omega
  have:=Nat.mul_le_mul (show x≤4294967295 by omega) h1
  omega
theorem aPj {v q ri A p x y h z:Nat}(hv:v+q*ri=A*p) (hz:z=x*p) (hy:z % 4294967296=y) (hh:z / 4294967296=h):v+q*(ri+y)+q*4294967296*h=(A+q*x)*p:=by
 have h1:y+4294967296*h=x*p:=by omega
 rw[Nat.add_mul,← hv,Nat.mul_assoc q x,← h1,Nat.mul_add,Nat.mul_add,Nat.mul_assoc q]
 omega
theorem gD (a:List Nat) (i:Nat):val (a.drop i)=a.getD i 0+4294967296*val (a.drop (i+1)):=by
 rcases Nat.lt_or_ge i a.length with h |h
 ·rw[fL h,val]
 ·rw[List.drop_of_length_le h,List.drop_of_length_le (by omega)]
  have:a.getD i 0=0:=by simp[List.getD,h]
  rw[this];rfl
theorem aI1 {a:List Nat}(ha:OkD a) {i:Nat}(hi:i≤a.length):val a / 4294967296^i=val (a.drop i):=by
 have h1:=jE a i hi
 have h2:=jA (ha.take i)
 rw[List.length_take,Nat.min_eq_left hi]at h2
 rw[h1,Nat.add_mul_div_left _ _ (by have:0<4294967296^i:=Nat.pow_pos (by omega)
                                    exact this),Nat.div_eq_of_lt h2,Nat.zero_add]
theorem aI2 {a:List Nat}(ha:OkD a) {i s:Nat}(hi:i<a.length) (hs:s<32):
  (val a / 2^s) % 4294967296^(i+1)=(val a / 2^s) % 4294967296^i+4294967296^i*((a.getD (i+1) 0*4294967296+a.getD i 0) / 2^s % 4294967296):=by
 obtain⟨t,ht,_⟩:=aG3 hs
 have hp:0<2^s:=Nat.two_pow_pos s
 rw[Nat.mod_pow_succ]
 congr 2
 rw[Nat.div_div_eq_div_mul,Nat.mul_comm,← Nat.div_div_eq_div_mul,aI1 ha (by omega),gD,gD]
 have h1:a.getD i 0+4294967296*(a.getD (i+1) 0+4294967296*val (a.drop (i+1+1)))=(a.getD (i+1) 0*4294967296+a.getD i 0)+2^s*(4294967296*(t*val (a.drop (i+1+1)))):=by
  have:2^s*(4294967296*(t*val (a.drop (i+1+1))))=(2^s*t)*4294967296*val (a.drop (i+1+1)):=by ac_rfl
  rw[this,← ht]
  omega
 rw[h1,Nat.add_mul_div_left _ _ hp,Nat.add_mul_mod_self_left]
end Go.Num
namespace Go.Proofs.YtaidcaemdkncgaaGreatDoor
section
open Go Go.Lg Go.Num
attribute [local irreducible] lrun lwp exThen exBlk keep goodPost
theorem bC:Tryz.prog.follows .mixedOrders=true:=by kernel_rfl
def u32 (n:Nat):LV:= .lit (.int .u32 (n:Int))
def u64 (n:Nat):LV:= .lit (.int .u64 (n:Int))
def i64 (n:Int):LV:= .lit (.int .i64 n)
def bl (b:Bool):LV:= .lit (.bool b)
def aO (z:Int):LV:= .agg [bl (decide (z<0)),dg (aC z.natAbs)]
theorem aL6 (ds:List Nat) (hlen:ds.length≤1099511627776):PureGood Tryz.prog 164 [dg ds] (dg (lN ds)):=by
 refine aA bC Tryz.func164 rfl (by decide) (nt:=21) rfl (rs:=[.tmp 2]) rfl (aZ rfl) ?_
 refine aM ?_
 refine aI (α:={k:Nat // k≤ds.length∧lN ds=lN (ds.take k)}) (fun k=>st 21 (lk [(0,.sl k.1 (eQ (ds.take k.1))),(2,nilL)]) (cP []) 0) (fun k=>k.1) ⟨ds.length,Nat.le_refl _,by simp⟩ ?_ ?_
 ·exact zP0
 ·rintro⟨k,hk,ht⟩
  simp only[st]
  rcases k with _ |k
  ·refine aM ?_
   refine gL ?_
   refine iD ?_
   rw[ht]
   rfl
  ·have hg:(ds.take (k+1)).getD k 0=ds.getD k 0:=by simp[List.getD,List.getElem?_take]
   have hlen2:(ds.take (k+1)).length=k+1:=by rw[List.length_take];omega
   by_cases h0:ds.getD k 0=0
   ·have hd:(ds.take (k+1)).getD k 0=0:=by rw[hg,h0]
    refine aM ?_
    refine⟨⟨k,by omega,by rw[ht,sP (by omega) h0]⟩,?_,Nat.lt_succ_self k⟩
    exact zP0
   ·have hd:¬(ds.take (k+1)).getD k 0=0:=by rw[hg];exact h0
    refine aM ?_
    refine gL ?_
    refine iD ?_
    rw[ht,vY (by omega) h0]
    simp[dg,Nat.min_eq_left hk]
theorem iF {ds:List Nat}(hok:OkD ds) (hlen:ds.length≤1099511627776):PureGood Tryz.prog 164 [dg ds] (dg (aC (val ds))):=by
 rw[← aDv hok];exact aL6 ds hlen
theorem nL {x y c:Nat}(hx:x<4294967296) (hy:y<4294967296) (hc:c<4294967296):
  PureGood Tryz.prog 304 [u32 x,u32 y,u32 c] (.tup [u32 ((x+y+c) % 4294967296),u32 ((x+y+c) / 4294967296)]):=by
 unfold u32
 refine aA bC Tryz.func304 rfl (by decide) (nt:=22) rfl (rs:=[.tmp 6,.tmp 7]) rfl (aZ rfl) ?_
 refine aM ?_
 refine gL ?_
 refine iD ?_
 simp only[Option.some.injEq,LV.tup.injEq,LV.agg.injEq,LV.sl.injEq,List.cons.injEq,LV.lit.injEq,Value.int.injEq,Value.bool.injEq,true_and,and_true,u32,u64,i64,bl,aN,dN]
 omega
theorem oS {neg:Bool}{ds:List Nat}(hok:OkD ds) (hlen:ds.length≤1099511627776):
  PureGood Tryz.prog 209 [bl neg,dg ds] (aO (if neg then -(val ds:Int)else(val ds:Int))):=by
 unfold bl
 refine aA bC Tryz.func209 rfl (by decide) (nt:=15) rfl (rs:=[.cell 4 45]) rfl (aZ rfl) ?_
 refine aM ?_
 refine cQ (g:=(iF hok hlen)) (k:= ?_)
 refine aM ?_
 have hl2:=tF hok
 cases neg with
 |false=>
  refine aM ?_
  refine gL ?_
  refine iD ?_
  simp[aO,bl,dg]
 |true=>
  refine aM ?_
  refine gL ?_
  refine iD ?_
  have e:(0<(aC (val ds)).length)↔0<val ds:=by
    rw[List.length_pos_iff,Ne,bO];omega
  simp[aO,bl,dg,e]
theorem aVh (n:Int) (h: -9223372036854775808≤n∧n≤9223372036854775807):PureGood Tryz.prog 305 [i64 n] (i64 (if n<0 then -1 else if n=0 then 0 else 1)):=by
 unfold i64
 refine aA bC Tryz.func305 rfl (by decide) (nt:=9) rfl (rs:=[.tmp 2]) rfl (aZ rfl) ?_
 by_cases h1:n<0
 ·refine aM ?_
  refine gL ?_
  simp(disch:=first|omega|exact kD rfl|exact kX rfl) only[smY,simprocAttr,bl,u32,u64,i64]
  try simp[h1]
 ·by_cases h2:n=0
  ·subst h2
   refine aM ?_
   refine gL ?_
   simp(disch:=first|omega|exact kD rfl|exact kX rfl) only[smY,simprocAttr,bl,u32,u64,i64]
   try simp
  ·refine aM ?_
   refine gL ?_
   refine iD ?_
   simp[h1,h2]
theorem kE (n:Nat) (h:n<18446744073709551616):PureGood Tryz.prog 210 [u64 n] (dg (aC n)):=by
 unfold u64
 refine aA bC Tryz.func210 rfl (by decide) (nt:=18) rfl (rs:=[.tmp 2]) rfl (aZ rfl) ?_
 by_cases h1:n=0
 ·subst h1
  refine aM ?_
  refine gL ?_
  refine iD ?_
  rw[aX];rfl
 ·by_cases h2:n<4294967296
  ·refine aM ?_
   refine gL ?_
   refine iD ?_
   rw[eN h1 h2];rfl
  ·refine aM ?_
   refine gL ?_
   refine iD ?_
   rw[jO h1,eN (by omega) (by omega)]
   simp[dg,eQ,aN]
end
section
open Go Go.Lg Go.Num
attribute [local irreducible] lrun lwp exThen exBlk keep goodPost
theorem aVi {ds:List Nat}(hok:OkD ds) (hl:ds.length≤2):PureGood Tryz.prog 307 [dg ds] (u64 (val ds)):=by
 unfold u64
 match ds,hl with
 |[],_=>
  refine aA bC Tryz.func307 rfl (by decide) (nt:=23) rfl (rs:=[.tmp 2]) rfl (aZ rfl) ?_
  refine aM ?_
  refine gL ?_
  refine iD ?_
  rfl
 |[a],_=>
  have ha:=hok.head
  refine aA bC Tryz.func307 rfl (by decide) (nt:=23) rfl (rs:=[.tmp 2]) rfl (aZ rfl) ?_
  refine aM ?_
  refine gL ?_
  simp[pv,eQ,dN,val]
 |[a,b],_=>
  have ha:=hok.head
  have hb:=hok.tail.head
  refine aA bC Tryz.func307 rfl (by decide) (nt:=23) rfl (rs:=[.tmp 2]) rfl (aZ rfl) ?_
  simp only[dg,aYw,bFo,List.length_cons,List.length_nil,Nat.reduceAdd]
  refine aM ?_
  refine gL ?_
  refine iD ?_
  simp[val]
  omega
theorem aVj (P:List LV) (hP:P=[.lit (.slice none 0 0)]):PureGood Tryz.prog 255 P (dg []):=by
 subst hP
 refine aA bC Tryz.func255 rfl (by decide) (nt:=8) rfl (rs:=[.tmp 2]) rfl (aZ rfl) ?_
 refine aM ?_
 refine gL ?_
 refine iD ?_
 rfl
theorem aL7 (a:Addr) (c:Nat):PureGood Tryz.prog 255 [.lit (.slice (some a) 0 c)] (dg []):=by
 refine aA bC Tryz.func255 rfl (by decide) (nt:=8) rfl (rs:=[.tmp 2]) rfl (aZ rfl) ?_
 refine aM ?_
 refine gL ?_
 refine iD ?_
 rfl
theorem nM (ds:List Nat) (hl:ds.length≤1099511627776):PureGood Tryz.prog 255 [dg ds] (dg ds):=by
 match ds,hl with
 |[],_=>exact aPa (aVj _ rfl) aL7
 |d::ds,hl=>
  have h2:(d::ds).length=ds.length+1:=rfl
  generalize d::ds=es at*
  have h3:0<es.length:=by omega
  refine aA bC Tryz.func255 rfl (by decide) (nt:=8) rfl (rs:=[.tmp 2]) rfl (aZ rfl) ?_
  refine aM ?_
  refine gL ?_
  refine iD ?_
  simp
theorem jP (n:Int) (h: -9223372036854775808≤n∧n≤9223372036854775807):PureGood Tryz.prog 123 [i64 n] (aO n):=by
 unfold i64
 refine aA bC Tryz.func123 rfl (by decide) (nt:=14) rfl (rs:=[.cell 2 45]) rfl (aZ rfl) ?_
 have hl:(aC n.natAbs).length≤2:=bT (k:=2) (by omega)
 by_cases h1:n<0
 ·have e1:(18446744073709551616-n % 18446744073709551616)=(n.natAbs:Int):=by omega
  have e2:(0-n % 18446744073709551616) % 18446744073709551616=(n.natAbs:Int):=by omega
  refine aM ?_
  simp only[dN,e2]
  refine cQ (g:=(kE n.natAbs (by omega))) (k:= ?_)
  simp only[↓reduceIte,List.nil_eq,reduceCtorEq]
  refine cQ (g:=(oS (neg:=true) (aS n.natAbs) (by omega))) (k:= ?_)
  simp only[if_true]
  rw[aJ,show -((n.natAbs:Nat):Int)=n by omega]
  simp only[aO]
  refine aM ?_
  exact lM
 ·obtain⟨k,rfl⟩:=Int.eq_ofNat_of_zero_le (by omega:0≤n)
  rw[Int.natAbs_natCast]at hl
  refine aM ?_
  refine cQ (g:=(kE k (by omega))) (k:= ?_)
  refine cQ (g:=(oS (neg:=false) (aS k) (by omega))) (k:= ?_)
  simp only[if_true,Bool.false_eq_true,if_false]
  rw[aJ]
  simp only[aO]
  refine aM ?_
  exact lM
theorem rB {x y c:Nat}(hx:x<4294967296) (hy:y<4294967296) (hc:c≤1):
  PureGood Tryz.prog 306 [u32 x,u32 y,u32 c] (.tup [u32 ((x+8589934592-y-c) % 4294967296),u32 (if x<y+c then 1 else 0)]):=by
 unfold u32
 refine aA bC Tryz.func306 rfl (by decide) (nt:=25) rfl (rs:=[.tmp 6,.tmp 7]) rfl (aZ rfl) ?_
 refine aM ?_
 refine gL ?_
 refine iD ?_
 simp(disch:=omega) only[aX7,zW,orI,aDq,IntKind.bits,Option.some.injEq,LV.tup.injEq,LV.lit.injEq,Value.int.injEq,List.cons.injEq,true_and,and_true]
 exact⟨aL1 hx hy hc,aPf hx hy hc (aL1 hx hy hc)⟩
theorem aI3 {a b:List Nat}(ha:OkD a) (hb:OkD b) (hea:a=aC (val a)) (heb:b=aC (val b)) (la:a.length≤1099511627776) (lb:b.length≤1099511627776):
  PureGood Tryz.prog 282 [dg a,dg b] (i64 (wS (val a) (val b))):=by
 unfold i64
 refine aA bC Tryz.func282 rfl (by decide) (nt:=42) rfl (rs:=[.tmp 4]) rfl (aZ rfl) ?_
 by_cases hl:a.length=b.length
 ·refine aM ?_
  refine aI (α:={k:Nat // k≤a.length∧a.drop k=b.drop k}) (fun k=>st 42 (lk [(0,.sl a.length (eQ a)),(1,.sl b.length (eQ b)),(5,.lit (.int .i64 ((k.1:Int)-1)))]) (cP []) 0) (fun k=>k.1) ⟨a.length,Nat.le_refl _,by simp[hl]⟩ ?_ ?_
  ·exact zP0
  ·rintro⟨k,hk,he⟩
   simp only[st]
   rcases k with _ |k
   ·refine aM ?_
    refine gL ?_
    refine iD ?_
    have:a=b:=by simpa using he
    rw[this]
    simp[wS]
   ·have hkb:k<b.length:=by omega
    by_cases h1:a.getD k 0=b.getD k 0
    ·refine aM ?_
     refine⟨⟨k,by omega,by rw[fL (by omega),fL hkb,he,h1]⟩,?_,Nat.lt_succ_self k⟩
     (refine Sub.plain ?_;simp only[aG,dg,renL,renLs,simprocAttr,bl,u32,u64,i64])
     (simp only[LV.lit.injEq,Value.int.injEq,true_and,and_true,dg,LV.sl.injEq];omega)
    ·by_cases h2:a.getD k 0<b.getD k 0
     ·refine aM ?_
      refine gL ?_
      refine iD ?_
      have:=aIz ha hl (by omega) he h2
      simp[wS,this]
     ·refine aM ?_
      refine gL ?_
      refine iD ?_
      have:=aIz hb hl.symm hkb he.symm (by omega)
      have h3:¬val a<val b:=by omega
      have h4:¬val a=val b:=by omega
      simp[wS,h3,h4]
 ·have hl1:(a.length:Int)-b.length≠0:=by omega
  refine aM ?_
  refine cQ (g:=(aVh _ (by omega))) (k:= ?_)
  simp only[i64]
  refine aM ?_
  refine gL ?_
  refine iD ?_
  by_cases h2:a.length<b.length
  ·have h3:val a<val b:=fU (by rw[← hea,← heb];exact h2)
   have h4:(a.length:Int)-b.length<0:=by omega
   simp[wS,h3,h4]
  ·have h3:val b<val a:=fU (by rw[← hea,← heb];omega)
   have h4:¬(a.length:Int)-b.length<0:=by omega
   have h5:¬val a<val b:=by omega
   have h6:¬val a=val b:=by omega
   simp only[wS,if_neg h4,if_neg hl1,if_neg h5,if_neg h6]
end
section
open Go Go.Lg Go.Num
attribute [local irreducible] lrun lwp exThen exBlk keep goodPost
theorem aVk {a b:List Nat}(ha:OkD a) (hb:OkD b) (hl:b.length≤a.length) (hv:val b≤val a) (la:a.length≤1099511627776):
  PureGood Tryz.prog 283 [dg a,dg b] (dg (iR a.length (val a-val b))):=by
 refine aA bC Tryz.func283 rfl (by decide) (nt:=40) rfl (rs:=[.tmp 4]) rfl (aZ rfl) ?_
 refine aM ?_
 refine aI (α:={p:Nat×List Nat×Nat // p.1≤a.length∧p.2.1.length=a.length∧OkD p.2.1∧p.2.2≤1∧val (p.2.1.take p.1)+val (b.take p.1)=val (a.take p.1)+4294967296^p.1*p.2.2})
  (fun p=>st 40 (lk [(0,dg a),(1,dg b),(5,.own 0 0 a.length 1),(6,u32 p.1.2.2),(13,dg a),(14,i64 a.length),(15,i64 p.1.1)]) (cP [(0,⟨185,eQ p.1.2.1,false⟩)]) 1) (fun p=>a.length-p.1.1) ⟨(0,List.replicate a.length 0,0),by simp,by simp,OkD.replicate _,by simp,by simp[val]⟩ ?_ ?_
 ·(refine Sub.heap1 3 ?_ (by simp only[aG,dg,renL,renLs,simprocAttr,bl,u32,u64,i64];exact rfl) ?_ ?_;all_goals(first |exact aE _ |with_reducible rfl |(simp only[aG,dg,renL,renLs,simprocAttr,bl,u32,u64,i64])|skip))
  exact iE _
 ·rintro⟨⟨k,r,c⟩,hk,hr,hor,hc,he⟩
  simp only at hk hr hc he hor
  simp only[st]
  have hx:=ha.getD k
  have hy:=hb.getD k
  by_cases h1:k<a.length
  ·by_cases h2:k<b.length
   ·refine aM ?_
    refine cQ (g:=(rB hx hy hc)) (k:= ?_)
    simp only[u32]
    refine aM ?_
    refine⟨⟨(k+1,r.set k ((a.getD k 0+8589934592-b.getD k 0-c) % 4294967296),if a.getD k 0<b.getD k 0+c then 1 else 0),by simp only;omega,by simp[hr],hor.set (by omega),by simp only;split <;>omega,?_⟩,?_,by simp only;omega⟩
    ·simp only
     rw[cA (by omega),aD,aD,Nat.pow_succ]
     exact iS he (by split <;>omega)
    ·exact zO0 0
   ·have hy0:b.getD k 0=0:=by simp[List.getD,Nat.le_of_not_lt h2]
    refine aM ?_
    refine cQ (g:=(rB (y:=0) hx (by omega) hc)) (k:= ?_)
    simp only[u32]
    refine aM ?_
    refine⟨⟨(k+1,r.set k ((a.getD k 0+8589934592-0-c) % 4294967296),if a.getD k 0<0+c then 1 else 0),by simp only;omega,by simp[hr],hor.set (by omega),by simp only;split <;>omega,?_⟩,?_,by simp only;omega⟩
    ·simp only
     rw[cA (by omega),aD,aD,Nat.pow_succ,hy0]
     exact iS he (by split <;>omega)
    ·exact zO0 0
  ·refine aM ?_
   refine gL ?_
   refine iD ?_
   have hka:k=a.length:=by omega
   subst hka
   rw[List.take_of_length_le (Nat.le_of_eq hr)]at he⊢
   rw[List.take_of_length_le hl,List.take_of_length_le (Nat.le_refl _)]at he
   have hvr:=jA hor
   rw[hr]at hvr
   have hc0:c=0:=by
    rcases Nat.eq_zero_or_pos c with h |h
    ·exact h
    ·have:c=1:=by omega
     subst this
     omega
   subst hc0
   rw[← gJ hor hr (show val r=val a-val b by omega)]
   simp[hr]
def aG4 (a b:List Nat):List Nat:=iR (max a.length b.length+1) (val a+val b)
theorem aVl {a b:List Nat}(ha:OkD a) (hb:OkD b) (la:a.length≤1099511627776) (lb:b.length≤1099511627776):
  PureGood Tryz.prog 281 [dg a,dg b] (dg (aG4 a b)):=by
 refine aA bC Tryz.func281 rfl (by decide) (nt:=53) rfl (rs:=[.tmp 4]) rfl (aZ rfl) ?_
 by_cases hab:a.length<b.length
 ·have hle:=Nat.le_of_lt hab
  rw[aG4,Nat.max_eq_right hle,Nat.add_comm (val a)]
  refine aM ?_
  refine aI (α:={p:Nat×List Nat×Nat // p.1≤b.length∧p.2.1.length=b.length+1∧OkD p.2.1∧p.2.2≤1∧val (p.2.1.take p.1)+4294967296^p.1*p.2.2=val (b.take p.1)+val (a.take p.1)})
   (fun p=>st 53 (lk [(0,dg b),(1,dg a),(5,.own 0 0 (b.length+1) 1),(6,u32 p.1.2.2),(21,dg b),(22,i64 b.length),(23,i64 p.1.1)]) (cP [(0,⟨185,eQ p.1.2.1,false⟩)]) 1) (fun p=>b.length-p.1.1) ⟨(0,List.replicate (b.length+1) 0,0),by simp,by simp,OkD.replicate _,by simp,by simp[val]⟩ ?_ ?_
  ·(refine Sub.heap1 13 ?_ (by simp only[aG,dg,renL,renLs,simprocAttr,bl,u32,u64,i64];exact rfl) ?_ ?_;all_goals(first |exact aE _ |with_reducible rfl |(simp only[aG,dg,renL,renLs,simprocAttr,bl,u32,u64,i64])|skip))
   exact iE _
  ·rintro⟨⟨k,r,c⟩,hk,hr,hor,hc,he⟩
   simp only at hk hr hc he hor
   simp only[st]
   have hx:=hb.getD k
   have hy:=ha.getD k
   by_cases h1:k<b.length
   ·by_cases h2:k<a.length
    ·refine aM ?_
     refine cQ (g:=(nL hx hy (by omega))) (k:= ?_)
     simp only[u32]
     refine aM ?_
     refine⟨⟨(k+1,r.set k ((b.getD k 0+a.getD k 0+c) % 4294967296),(b.getD k 0+a.getD k 0+c) / 4294967296),by simp only;omega,by simp[hr],hor.set (by omega),by simp only;omega,?_⟩,?_,by simp only;omega⟩
     ·simp only
      rw[cA (by omega),aD,aD,Nat.pow_succ]
      exact gU he rfl
     ·exact zO0 0
    ·have hy0:a.getD k 0=0:=by simp[List.getD,Nat.le_of_not_lt h2]
     refine aM ?_
     refine cQ (g:=(nL (y:=0) hx (by omega) (by omega))) (k:= ?_)
     simp only[u32]
     refine aM ?_
     refine⟨⟨(k+1,r.set k ((b.getD k 0+0+c) % 4294967296),(b.getD k 0+0+c) / 4294967296),by simp only;omega,by simp[hr],hor.set (by omega),by simp only;omega,?_⟩,?_,by simp only;omega⟩
     ·simp only
      rw[cA (by omega),aD,aD,Nat.pow_succ,hy0]
      exact gU he rfl
     ·exact zO0 0
   ·have hka:k=b.length:=by omega
    subst hka
    refine aM ?_
    refine gL ?_
    refine iD ?_
    have h4:val ((r.set b.length c).take (b.length+1))=val b+val a:=by
     rw[cA (by omega),he,List.take_of_length_le (Nat.le_refl _),List.take_of_length_le hle]
    rw[List.take_of_length_le (by simp[hr])]at h4
    rw[List.take_of_length_le (by simp[hr])]
    rw[gJ (k:=b.length+1) (hor.set (k:=b.length) (d:=c) (by omega)) (by simp[hr]) h4]
    simp[bN]
 ·have hle:=Nat.le_of_not_lt hab
  rw[aG4,Nat.max_eq_left hle]
  refine aM ?_
  refine aI (α:={p:Nat×List Nat×Nat // p.1≤a.length∧p.2.1.length=a.length+1∧OkD p.2.1∧p.2.2≤1∧val (p.2.1.take p.1)+4294967296^p.1*p.2.2=val (a.take p.1)+val (b.take p.1)})
   (fun p=>st 53 (lk [(0,dg a),(1,dg b),(5,.own 0 0 (a.length+1) 1),(6,u32 p.1.2.2),(21,dg a),(22,i64 a.length),(23,i64 p.1.1)]) (cP [(0,⟨185,eQ p.1.2.1,false⟩)]) 1) (fun p=>a.length-p.1.1) ⟨(0,List.replicate (a.length+1) 0,0),by simp,by simp,OkD.replicate _,by simp,by simp[val]⟩ ?_ ?_
  ·(refine Sub.heap1 9 ?_ (by simp only[aG,dg,renL,renLs,simprocAttr,bl,u32,u64,i64];exact rfl) ?_ ?_;all_goals(first |exact aE _ |with_reducible rfl |(simp only[aG,dg,renL,renLs,simprocAttr,bl,u32,u64,i64])|skip))
   exact iE _
  ·rintro⟨⟨k,r,c⟩,hk,hr,hor,hc,he⟩
   simp only at hk hr hc he hor
   simp only[st]
   have hx:=ha.getD k
   have hy:=hb.getD k
   by_cases h1:k<a.length
   ·by_cases h2:k<b.length
    ·refine aM ?_
     refine cQ (g:=(nL hx hy (by omega))) (k:= ?_)
     simp only[u32]
     refine aM ?_
     refine⟨⟨(k+1,r.set k ((a.getD k 0+b.getD k 0+c) % 4294967296),(a.getD k 0+b.getD k 0+c) / 4294967296),by simp only;omega,by simp[hr],hor.set (by omega),by simp only;omega,?_⟩,?_,by simp only;omega⟩
     ·simp only
      rw[cA (by omega),aD,aD,Nat.pow_succ]
      exact gU he rfl
     ·exact zO0 0
    ·have hy0:b.getD k 0=0:=by simp[List.getD,Nat.le_of_not_lt h2]
     refine aM ?_
     refine cQ (g:=(nL (y:=0) hx (by omega) (by omega))) (k:= ?_)
     simp only[u32]
     refine aM ?_
     refine⟨⟨(k+1,r.set k ((a.getD k 0+0+c) % 4294967296),(a.getD k 0+0+c) / 4294967296),by simp only;omega,by simp[hr],hor.set (by omega),by simp only;omega,?_⟩,?_,by simp only;omega⟩
     ·simp only
      rw[cA (by omega),aD,aD,Nat.pow_succ,hy0]
      exact gU he rfl
     ·exact zO0 0
   ·have hka:k=a.length:=by omega
    subst hka
    refine aM ?_
    refine gL ?_
    refine iD ?_
    have h4:val ((r.set a.length c).take (a.length+1))=val a+val b:=by
     rw[cA (by omega),he,List.take_of_length_le (Nat.le_refl _),List.take_of_length_le hle]
    rw[List.take_of_length_le (by simp[hr])]at h4
    rw[List.take_of_length_le (by simp[hr])]
    rw[gJ (k:=a.length+1) (hor.set (k:=a.length) (d:=c) (by omega)) (by simp[hr]) h4]
    simp[bN]
end
end Go.Proofs.YtaidcaemdkncgaaGreatDoor

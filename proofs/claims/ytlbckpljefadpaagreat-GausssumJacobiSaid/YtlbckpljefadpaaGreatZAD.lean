/- Contracts of functions of the program, and what proves them (texts: BTy Inst Num B1 B2 B3). -/
import Derived.Test.YtlbckpljefadpaaGreatProg
import Derived.KernelRfl
import Derived.Test.YtlbckpljefadpaaGreatZAC
set_option linter.all false
namespace Go.Proofs.YtlbckpljefadpaaGreat
open Go Go.Lg
set_option maxRecDepth 100000
theorem tsz2 : sizeL Tryz.prog 2 = some 1 := by kernel_rfl
theorem tby2 : bytesL Tryz.prog 2 = some 8 := by kernel_rfl
theorem tag2 : isAggL Tryz.prog 2 = some false := by kernel_rfl
theorem tze2 : zeroL Tryz.prog 2 = some [(.lit (.int .i64 0))] := by kernel_rfl
theorem tpl2 : placesL Tryz.prog 2 = none := by kernel_rfl
theorem tar2 : arrL Tryz.prog 2 = none := by kernel_rfl
theorem tel2 : elemL Tryz.prog 2 = none := by kernel_rfl
theorem tki2 : kindL Tryz.prog 2 = some .i64 := by kernel_rfl
theorem tsz3 : sizeL Tryz.prog 3 = some 1 := by kernel_rfl
theorem tby3 : bytesL Tryz.prog 3 = some 8 := by kernel_rfl
theorem tag3 : isAggL Tryz.prog 3 = some false := by kernel_rfl
theorem tze3 : zeroL Tryz.prog 3 = some [(.lit (.int .i64 0))] := by kernel_rfl
theorem tpl3 : placesL Tryz.prog 3 = none := by kernel_rfl
theorem tar3 : arrL Tryz.prog 3 = none := by kernel_rfl
theorem tel3 : elemL Tryz.prog 3 = none := by kernel_rfl
theorem tki3 : kindL Tryz.prog 3 = some .i64 := by kernel_rfl
theorem tsz4 : sizeL Tryz.prog 4 = some 1 := by kernel_rfl
theorem tby4 : bytesL Tryz.prog 4 = some 1 := by kernel_rfl
theorem tag4 : isAggL Tryz.prog 4 = some false := by kernel_rfl
theorem tze4 : zeroL Tryz.prog 4 = some [(.lit (.bool false))] := by kernel_rfl
theorem tbo4 : boolL Tryz.prog 4 = true := by kernel_rfl
theorem tpl4 : placesL Tryz.prog 4 = none := by kernel_rfl
theorem tar4 : arrL Tryz.prog 4 = none := by kernel_rfl
theorem tel4 : elemL Tryz.prog 4 = none := by kernel_rfl
theorem tsz5 : sizeL Tryz.prog 5 = some 1 := by kernel_rfl
theorem tby5 : bytesL Tryz.prog 5 = some 1 := by kernel_rfl
theorem tag5 : isAggL Tryz.prog 5 = some false := by kernel_rfl
theorem tze5 : zeroL Tryz.prog 5 = some [(.lit (.int .u8 0))] := by kernel_rfl
theorem tpl5 : placesL Tryz.prog 5 = none := by kernel_rfl
theorem tar5 : arrL Tryz.prog 5 = none := by kernel_rfl
theorem tel5 : elemL Tryz.prog 5 = none := by kernel_rfl
theorem tki5 : kindL Tryz.prog 5 = some .u8 := by kernel_rfl
theorem tsz9 : sizeL Tryz.prog 9 = some 1 := by kernel_rfl
theorem tby9 : bytesL Tryz.prog 9 = some 16 := by kernel_rfl
theorem tag9 : isAggL Tryz.prog 9 = some false := by kernel_rfl
theorem tze9 : zeroL Tryz.prog 9 = some [(.lit (.string ByteArray.empty))] := by kernel_rfl
theorem tpl9 : placesL Tryz.prog 9 = none := by kernel_rfl
theorem tar9 : arrL Tryz.prog 9 = none := by kernel_rfl
theorem tel9 : elemL Tryz.prog 9 = none := by kernel_rfl
theorem tsz12 : sizeL Tryz.prog 12 = some 1 := by kernel_rfl
theorem tby12 : bytesL Tryz.prog 12 = some 8 := by kernel_rfl
theorem tag12 : isAggL Tryz.prog 12 = some false := by kernel_rfl
theorem tze12 : zeroL Tryz.prog 12 = some [(.lit (.int .u64 0))] := by kernel_rfl
theorem tpl12 : placesL Tryz.prog 12 = none := by kernel_rfl
theorem tar12 : arrL Tryz.prog 12 = none := by kernel_rfl
theorem tel12 : elemL Tryz.prog 12 = none := by kernel_rfl
theorem tki12 : kindL Tryz.prog 12 = some .u64 := by kernel_rfl
theorem tsz13 : sizeL Tryz.prog 13 = some 2 := by kernel_rfl
theorem tby13 : bytesL Tryz.prog 13 = some 24 := by kernel_rfl
theorem tag13 : isAggL Tryz.prog 13 = some true := by kernel_rfl
theorem tze13 : zeroL Tryz.prog 13 = some [(.lit (.string ByteArray.empty)),(.lit (.int .u64 0))] := by kernel_rfl
theorem tpl13 : placesL Tryz.prog 13 = some [(0,1),(1,1)] := by kernel_rfl
theorem tar13 : arrL Tryz.prog 13 = none := by kernel_rfl
theorem tel13 : elemL Tryz.prog 13 = none := by kernel_rfl
theorem tfi13x0 : fieldL Tryz.prog 13 0 = some (0,9) := by kernel_rfl
theorem tfi13x1 : fieldL Tryz.prog 13 1 = some (1,12) := by kernel_rfl
theorem tsz21 : sizeL Tryz.prog 21 = some 1 := by kernel_rfl
theorem tby21 : bytesL Tryz.prog 21 = some 4 := by kernel_rfl
theorem tag21 : isAggL Tryz.prog 21 = some false := by kernel_rfl
theorem tze21 : zeroL Tryz.prog 21 = some [(.lit (.int .i32 0))] := by kernel_rfl
theorem tpl21 : placesL Tryz.prog 21 = none := by kernel_rfl
theorem tar21 : arrL Tryz.prog 21 = none := by kernel_rfl
theorem tel21 : elemL Tryz.prog 21 = none := by kernel_rfl
theorem tki21 : kindL Tryz.prog 21 = some .i32 := by kernel_rfl
theorem tsz22 : sizeL Tryz.prog 22 = some 1 := by kernel_rfl
theorem tby22 : bytesL Tryz.prog 22 = some 24 := by kernel_rfl
theorem tag22 : isAggL Tryz.prog 22 = some false := by kernel_rfl
theorem tze22 : zeroL Tryz.prog 22 = some [(.lit (.slice none 0 0))] := by kernel_rfl
theorem tpl22 : placesL Tryz.prog 22 = none := by kernel_rfl
theorem tar22 : arrL Tryz.prog 22 = none := by kernel_rfl
theorem tel22 : elemL Tryz.prog 22 = some 3 := by kernel_rfl
theorem tsz23 : sizeL Tryz.prog 23 = some 2 := by kernel_rfl
theorem tby23 : bytesL Tryz.prog 23 = some 32 := by kernel_rfl
theorem tag23 : isAggL Tryz.prog 23 = some true := by kernel_rfl
theorem tze23 : zeroL Tryz.prog 23 = some [(.lit (.int .i64 0)),(.lit (.slice none 0 0))] := by kernel_rfl
theorem tpl23 : placesL Tryz.prog 23 = some [(0,1),(1,1)] := by kernel_rfl
theorem tar23 : arrL Tryz.prog 23 = none := by kernel_rfl
theorem tel23 : elemL Tryz.prog 23 = none := by kernel_rfl
theorem tfi23x0 : fieldL Tryz.prog 23 0 = some (0,3) := by kernel_rfl
theorem tfi23x1 : fieldL Tryz.prog 23 1 = some (1,22) := by kernel_rfl
theorem tsz24 : sizeL Tryz.prog 24 = some 2 := by kernel_rfl
theorem tby24 : bytesL Tryz.prog 24 = some 32 := by kernel_rfl
theorem tag24 : isAggL Tryz.prog 24 = some true := by kernel_rfl
theorem tze24 : zeroL Tryz.prog 24 = some [(.lit (.int .i64 0)),(.lit (.slice none 0 0))] := by kernel_rfl
theorem tpl24 : placesL Tryz.prog 24 = some [(0,1),(1,1)] := by kernel_rfl
theorem tar24 : arrL Tryz.prog 24 = none := by kernel_rfl
theorem tel24 : elemL Tryz.prog 24 = none := by kernel_rfl
theorem tfi24x0 : fieldL Tryz.prog 24 0 = some (0,3) := by kernel_rfl
theorem tfi24x1 : fieldL Tryz.prog 24 1 = some (1,22) := by kernel_rfl
theorem tsz27 : sizeL Tryz.prog 27 = some 1 := by kernel_rfl
theorem tby27 : bytesL Tryz.prog 27 = some 8 := by kernel_rfl
theorem tag27 : isAggL Tryz.prog 27 = some false := by kernel_rfl
theorem tze27 : zeroL Tryz.prog 27 = some [(.lit (.int .i64 0))] := by kernel_rfl
theorem tpl27 : placesL Tryz.prog 27 = none := by kernel_rfl
theorem tar27 : arrL Tryz.prog 27 = none := by kernel_rfl
theorem tel27 : elemL Tryz.prog 27 = none := by kernel_rfl
theorem tki27 : kindL Tryz.prog 27 = some .i64 := by kernel_rfl
theorem tsz33 : sizeL Tryz.prog 33 = some 1 := by kernel_rfl
theorem tby33 : bytesL Tryz.prog 33 = some 24 := by kernel_rfl
theorem tag33 : isAggL Tryz.prog 33 = some false := by kernel_rfl
theorem tze33 : zeroL Tryz.prog 33 = some [(.lit (.slice none 0 0))] := by kernel_rfl
theorem tpl33 : placesL Tryz.prog 33 = none := by kernel_rfl
theorem tar33 : arrL Tryz.prog 33 = none := by kernel_rfl
theorem tel33 : elemL Tryz.prog 33 = some 82 := by kernel_rfl
theorem tsz34 : sizeL Tryz.prog 34 = some 1 := by kernel_rfl
theorem tby34 : bytesL Tryz.prog 34 = some 24 := by kernel_rfl
theorem tag34 : isAggL Tryz.prog 34 = some false := by kernel_rfl
theorem tze34 : zeroL Tryz.prog 34 = some [(.lit (.slice none 0 0))] := by kernel_rfl
theorem tpl34 : placesL Tryz.prog 34 = none := by kernel_rfl
theorem tar34 : arrL Tryz.prog 34 = none := by kernel_rfl
theorem tel34 : elemL Tryz.prog 34 = some 82 := by kernel_rfl
theorem tsz43 : sizeL Tryz.prog 43 = some 3 := by kernel_rfl
theorem tby43 : bytesL Tryz.prog 43 = some 24 := by kernel_rfl
theorem tag43 : isAggL Tryz.prog 43 = some true := by kernel_rfl
theorem tze43 : zeroL Tryz.prog 43 = some [(.lit (.bool false)),(.lit (.int .i64 0)),(.lit (.int .i64 0))] := by kernel_rfl
theorem tpl43 : placesL Tryz.prog 43 = some [(0,1),(1,1),(2,1)] := by kernel_rfl
theorem tar43 : arrL Tryz.prog 43 = none := by kernel_rfl
theorem tel43 : elemL Tryz.prog 43 = none := by kernel_rfl
theorem tfi43x0 : fieldL Tryz.prog 43 0 = some (0,4) := by kernel_rfl
theorem tfi43x1 : fieldL Tryz.prog 43 1 = some (1,3) := by kernel_rfl
theorem tfi43x2 : fieldL Tryz.prog 43 2 = some (2,3) := by kernel_rfl
theorem tsz44 : sizeL Tryz.prog 44 = some 3 := by kernel_rfl
theorem tby44 : bytesL Tryz.prog 44 = some 24 := by kernel_rfl
theorem tag44 : isAggL Tryz.prog 44 = some true := by kernel_rfl
theorem tze44 : zeroL Tryz.prog 44 = some [(.lit (.bool false)),(.lit (.int .i64 0)),(.lit (.int .i64 0))] := by kernel_rfl
theorem tpl44 : placesL Tryz.prog 44 = some [(0,1),(1,1),(2,1)] := by kernel_rfl
theorem tar44 : arrL Tryz.prog 44 = none := by kernel_rfl
theorem tel44 : elemL Tryz.prog 44 = none := by kernel_rfl
theorem tfi44x0 : fieldL Tryz.prog 44 0 = some (0,4) := by kernel_rfl
theorem tfi44x1 : fieldL Tryz.prog 44 1 = some (1,3) := by kernel_rfl
theorem tfi44x2 : fieldL Tryz.prog 44 2 = some (2,3) := by kernel_rfl
theorem tsz58 : sizeL Tryz.prog 58 = some 1 := by kernel_rfl
theorem tby58 : bytesL Tryz.prog 58 = some 2 := by kernel_rfl
theorem tag58 : isAggL Tryz.prog 58 = some false := by kernel_rfl
theorem tze58 : zeroL Tryz.prog 58 = some [(.lit (.int .i16 0))] := by kernel_rfl
theorem tpl58 : placesL Tryz.prog 58 = none := by kernel_rfl
theorem tar58 : arrL Tryz.prog 58 = none := by kernel_rfl
theorem tel58 : elemL Tryz.prog 58 = none := by kernel_rfl
theorem tki58 : kindL Tryz.prog 58 = some .i16 := by kernel_rfl
theorem tsz65 : sizeL Tryz.prog 65 = some 3 := by kernel_rfl
theorem tby65 : bytesL Tryz.prog 65 = some 72 := by kernel_rfl
theorem tag65 : isAggL Tryz.prog 65 = some true := by kernel_rfl
theorem tze65 : zeroL Tryz.prog 65 = some [(.lit (.slice none 0 0)),(.lit (.slice none 0 0)),(.lit (.slice none 0 0))] := by kernel_rfl
theorem tpl65 : placesL Tryz.prog 65 = none := by kernel_rfl
theorem tel65 : elemL Tryz.prog 65 = none := by kernel_rfl
theorem tar65 : arrL Tryz.prog 65 = some (3,34) := by kernel_rfl
theorem tsz66 : sizeL Tryz.prog 66 = some 6 := by kernel_rfl
theorem tby66 : bytesL Tryz.prog 66 = some 96 := by kernel_rfl
theorem tag66 : isAggL Tryz.prog 66 = some true := by kernel_rfl
theorem tze66 : zeroL Tryz.prog 66 = some [(.lit (.int .i64 0)),(.lit (.slice none 0 0)),(.lit (.int .i64 0)),(.lit (.slice none 0 0)),(.lit (.int .i64 0)),(.lit (.slice none 0 0))] := by kernel_rfl
theorem tpl66 : placesL Tryz.prog 66 = none := by kernel_rfl
theorem tel66 : elemL Tryz.prog 66 = none := by kernel_rfl
theorem tar66 : arrL Tryz.prog 66 = some (3,24) := by kernel_rfl
theorem tsz70 : sizeL Tryz.prog 70 = some 1 := by kernel_rfl
theorem tby70 : bytesL Tryz.prog 70 = some 24 := by kernel_rfl
theorem tag70 : isAggL Tryz.prog 70 = some false := by kernel_rfl
theorem tze70 : zeroL Tryz.prog 70 = some [(.lit (.slice none 0 0))] := by kernel_rfl
theorem tpl70 : placesL Tryz.prog 70 = none := by kernel_rfl
theorem tar70 : arrL Tryz.prog 70 = none := by kernel_rfl
theorem tel70 : elemL Tryz.prog 70 = some 3 := by kernel_rfl
theorem tsz78 : sizeL Tryz.prog 78 = some 1 := by kernel_rfl
theorem tby78 : bytesL Tryz.prog 78 = some 24 := by kernel_rfl
theorem tag78 : isAggL Tryz.prog 78 = some false := by kernel_rfl
theorem tze78 : zeroL Tryz.prog 78 = some [(.lit (.slice none 0 0))] := by kernel_rfl
theorem tpl78 : placesL Tryz.prog 78 = none := by kernel_rfl
theorem tar78 : arrL Tryz.prog 78 = none := by kernel_rfl
theorem tel78 : elemL Tryz.prog 78 = some 135 := by kernel_rfl
theorem tsz79 : sizeL Tryz.prog 79 = some 2 := by kernel_rfl
theorem tby79 : bytesL Tryz.prog 79 = some 32 := by kernel_rfl
theorem tag79 : isAggL Tryz.prog 79 = some true := by kernel_rfl
theorem tze79 : zeroL Tryz.prog 79 = some [(.lit (.bool false)),(.lit (.slice none 0 0))] := by kernel_rfl
theorem tpl79 : placesL Tryz.prog 79 = some [(0,1),(1,1)] := by kernel_rfl
theorem tar79 : arrL Tryz.prog 79 = none := by kernel_rfl
theorem tel79 : elemL Tryz.prog 79 = none := by kernel_rfl
theorem tfi79x0 : fieldL Tryz.prog 79 0 = some (0,4) := by kernel_rfl
theorem tfi79x1 : fieldL Tryz.prog 79 1 = some (1,78) := by kernel_rfl
theorem tsz80 : sizeL Tryz.prog 80 = some 2 := by kernel_rfl
theorem tby80 : bytesL Tryz.prog 80 = some 32 := by kernel_rfl
theorem tag80 : isAggL Tryz.prog 80 = some true := by kernel_rfl
theorem tze80 : zeroL Tryz.prog 80 = some [(.lit (.bool false)),(.lit (.slice none 0 0))] := by kernel_rfl
theorem tpl80 : placesL Tryz.prog 80 = some [(0,1),(1,1)] := by kernel_rfl
theorem tar80 : arrL Tryz.prog 80 = none := by kernel_rfl
theorem tel80 : elemL Tryz.prog 80 = none := by kernel_rfl
theorem tfi80x0 : fieldL Tryz.prog 80 0 = some (0,4) := by kernel_rfl
theorem tfi80x1 : fieldL Tryz.prog 80 1 = some (1,78) := by kernel_rfl
theorem tsz81 : sizeL Tryz.prog 81 = some 4 := by kernel_rfl
theorem tby81 : bytesL Tryz.prog 81 = some 64 := by kernel_rfl
theorem tag81 : isAggL Tryz.prog 81 = some true := by kernel_rfl
theorem tze81 : zeroL Tryz.prog 81 = some [(.lit (.bool false)),(.lit (.slice none 0 0)),(.lit (.bool false)),(.lit (.slice none 0 0))] := by kernel_rfl
theorem tpl81 : placesL Tryz.prog 81 = some [(0,2),(2,2)] := by kernel_rfl
theorem tar81 : arrL Tryz.prog 81 = none := by kernel_rfl
theorem tel81 : elemL Tryz.prog 81 = none := by kernel_rfl
theorem tfi81x0 : fieldL Tryz.prog 81 0 = some (0,80) := by kernel_rfl
theorem tfi81x1 : fieldL Tryz.prog 81 1 = some (2,80) := by kernel_rfl
theorem tsz82 : sizeL Tryz.prog 82 = some 4 := by kernel_rfl
theorem tby82 : bytesL Tryz.prog 82 = some 64 := by kernel_rfl
theorem tag82 : isAggL Tryz.prog 82 = some true := by kernel_rfl
theorem tze82 : zeroL Tryz.prog 82 = some [(.lit (.bool false)),(.lit (.slice none 0 0)),(.lit (.bool false)),(.lit (.slice none 0 0))] := by kernel_rfl
theorem tpl82 : placesL Tryz.prog 82 = some [(0,2),(2,2)] := by kernel_rfl
theorem tar82 : arrL Tryz.prog 82 = none := by kernel_rfl
theorem tel82 : elemL Tryz.prog 82 = none := by kernel_rfl
theorem tfi82x0 : fieldL Tryz.prog 82 0 = some (0,80) := by kernel_rfl
theorem tfi82x1 : fieldL Tryz.prog 82 1 = some (2,80) := by kernel_rfl
theorem tsz86 : sizeL Tryz.prog 86 = some 1 := by kernel_rfl
theorem tby86 : bytesL Tryz.prog 86 = some 24 := by kernel_rfl
theorem tag86 : isAggL Tryz.prog 86 = some false := by kernel_rfl
theorem tze86 : zeroL Tryz.prog 86 = some [(.lit (.slice none 0 0))] := by kernel_rfl
theorem tpl86 : placesL Tryz.prog 86 = none := by kernel_rfl
theorem tar86 : arrL Tryz.prog 86 = none := by kernel_rfl
theorem tel86 : elemL Tryz.prog 86 = some 89 := by kernel_rfl
theorem tsz88 : sizeL Tryz.prog 88 = some 3 := by kernel_rfl
theorem tby88 : bytesL Tryz.prog 88 = some 24 := by kernel_rfl
theorem tag88 : isAggL Tryz.prog 88 = some true := by kernel_rfl
theorem tze88 : zeroL Tryz.prog 88 = some [(.lit (.int .i64 0)),(.lit (.int .i64 0)),(.lit (.int .i64 0))] := by kernel_rfl
theorem tpl88 : placesL Tryz.prog 88 = some [(0,1),(1,1),(2,1)] := by kernel_rfl
theorem tar88 : arrL Tryz.prog 88 = none := by kernel_rfl
theorem tel88 : elemL Tryz.prog 88 = none := by kernel_rfl
theorem tfi88x0 : fieldL Tryz.prog 88 0 = some (0,3) := by kernel_rfl
theorem tfi88x1 : fieldL Tryz.prog 88 1 = some (1,3) := by kernel_rfl
theorem tfi88x2 : fieldL Tryz.prog 88 2 = some (2,3) := by kernel_rfl
theorem tsz89 : sizeL Tryz.prog 89 = some 3 := by kernel_rfl
theorem tby89 : bytesL Tryz.prog 89 = some 24 := by kernel_rfl
theorem tag89 : isAggL Tryz.prog 89 = some true := by kernel_rfl
theorem tze89 : zeroL Tryz.prog 89 = some [(.lit (.int .i64 0)),(.lit (.int .i64 0)),(.lit (.int .i64 0))] := by kernel_rfl
theorem tpl89 : placesL Tryz.prog 89 = some [(0,1),(1,1),(2,1)] := by kernel_rfl
theorem tar89 : arrL Tryz.prog 89 = none := by kernel_rfl
theorem tel89 : elemL Tryz.prog 89 = none := by kernel_rfl
theorem tfi89x0 : fieldL Tryz.prog 89 0 = some (0,3) := by kernel_rfl
theorem tfi89x1 : fieldL Tryz.prog 89 1 = some (1,3) := by kernel_rfl
theorem tfi89x2 : fieldL Tryz.prog 89 2 = some (2,3) := by kernel_rfl
theorem tsz90 : sizeL Tryz.prog 90 = some 1 := by kernel_rfl
theorem tby90 : bytesL Tryz.prog 90 = some 24 := by kernel_rfl
theorem tag90 : isAggL Tryz.prog 90 = some false := by kernel_rfl
theorem tze90 : zeroL Tryz.prog 90 = some [(.lit (.slice none 0 0))] := by kernel_rfl
theorem tpl90 : placesL Tryz.prog 90 = none := by kernel_rfl
theorem tar90 : arrL Tryz.prog 90 = none := by kernel_rfl
theorem tel90 : elemL Tryz.prog 90 = some 80 := by kernel_rfl
theorem tsz91 : sizeL Tryz.prog 91 = some 1 := by kernel_rfl
theorem tby91 : bytesL Tryz.prog 91 = some 24 := by kernel_rfl
theorem tag91 : isAggL Tryz.prog 91 = some false := by kernel_rfl
theorem tze91 : zeroL Tryz.prog 91 = some [(.lit (.slice none 0 0))] := by kernel_rfl
theorem tpl91 : placesL Tryz.prog 91 = none := by kernel_rfl
theorem tar91 : arrL Tryz.prog 91 = none := by kernel_rfl
theorem tel91 : elemL Tryz.prog 91 = some 80 := by kernel_rfl
theorem tsz92 : sizeL Tryz.prog 92 = some 1 := by kernel_rfl
theorem tby92 : bytesL Tryz.prog 92 = some 24 := by kernel_rfl
theorem tag92 : isAggL Tryz.prog 92 = some true := by kernel_rfl
theorem tze92 : zeroL Tryz.prog 92 = some [(.lit (.slice none 0 0))] := by kernel_rfl
theorem tpl92 : placesL Tryz.prog 92 = some [(0,1)] := by kernel_rfl
theorem tar92 : arrL Tryz.prog 92 = none := by kernel_rfl
theorem tel92 : elemL Tryz.prog 92 = none := by kernel_rfl
theorem tfi92x0 : fieldL Tryz.prog 92 0 = some (0,91) := by kernel_rfl
theorem tsz93 : sizeL Tryz.prog 93 = some 1 := by kernel_rfl
theorem tby93 : bytesL Tryz.prog 93 = some 24 := by kernel_rfl
theorem tag93 : isAggL Tryz.prog 93 = some true := by kernel_rfl
theorem tze93 : zeroL Tryz.prog 93 = some [(.lit (.slice none 0 0))] := by kernel_rfl
theorem tpl93 : placesL Tryz.prog 93 = some [(0,1)] := by kernel_rfl
theorem tar93 : arrL Tryz.prog 93 = none := by kernel_rfl
theorem tel93 : elemL Tryz.prog 93 = none := by kernel_rfl
theorem tfi93x0 : fieldL Tryz.prog 93 0 = some (0,91) := by kernel_rfl
theorem tsz117 : sizeL Tryz.prog 117 = some 1 := by kernel_rfl
theorem tby117 : bytesL Tryz.prog 117 = some 24 := by kernel_rfl
theorem tag117 : isAggL Tryz.prog 117 = some false := by kernel_rfl
theorem tze117 : zeroL Tryz.prog 117 = some [(.lit (.slice none 0 0))] := by kernel_rfl
theorem tpl117 : placesL Tryz.prog 117 = none := by kernel_rfl
theorem tar117 : arrL Tryz.prog 117 = none := by kernel_rfl
theorem tel117 : elemL Tryz.prog 117 = some 121 := by kernel_rfl
theorem tsz120 : sizeL Tryz.prog 120 = some 2 := by kernel_rfl
theorem tby120 : bytesL Tryz.prog 120 = some 16 := by kernel_rfl
theorem tag120 : isAggL Tryz.prog 120 = some true := by kernel_rfl
theorem tze120 : zeroL Tryz.prog 120 = some [(.lit (.int .i64 0)),(.lit (.int .i64 0))] := by kernel_rfl
theorem tpl120 : placesL Tryz.prog 120 = some [(0,1),(1,1)] := by kernel_rfl
theorem tar120 : arrL Tryz.prog 120 = none := by kernel_rfl
theorem tel120 : elemL Tryz.prog 120 = none := by kernel_rfl
theorem tfi120x0 : fieldL Tryz.prog 120 0 = some (0,3) := by kernel_rfl
theorem tfi120x1 : fieldL Tryz.prog 120 1 = some (1,3) := by kernel_rfl
theorem tsz121 : sizeL Tryz.prog 121 = some 2 := by kernel_rfl
theorem tby121 : bytesL Tryz.prog 121 = some 16 := by kernel_rfl
theorem tag121 : isAggL Tryz.prog 121 = some true := by kernel_rfl
theorem tze121 : zeroL Tryz.prog 121 = some [(.lit (.int .i64 0)),(.lit (.int .i64 0))] := by kernel_rfl
theorem tpl121 : placesL Tryz.prog 121 = some [(0,1),(1,1)] := by kernel_rfl
theorem tar121 : arrL Tryz.prog 121 = none := by kernel_rfl
theorem tel121 : elemL Tryz.prog 121 = none := by kernel_rfl
theorem tfi121x0 : fieldL Tryz.prog 121 0 = some (0,3) := by kernel_rfl
theorem tfi121x1 : fieldL Tryz.prog 121 1 = some (1,3) := by kernel_rfl
theorem tsz133 : sizeL Tryz.prog 133 = some 1 := by kernel_rfl
theorem tby133 : bytesL Tryz.prog 133 = some 8 := by kernel_rfl
theorem tag133 : isAggL Tryz.prog 133 = some false := by kernel_rfl
theorem tze133 : zeroL Tryz.prog 133 = some [(.lit (.int .u64 0))] := by kernel_rfl
theorem tpl133 : placesL Tryz.prog 133 = none := by kernel_rfl
theorem tar133 : arrL Tryz.prog 133 = none := by kernel_rfl
theorem tel133 : elemL Tryz.prog 133 = none := by kernel_rfl
theorem tki133 : kindL Tryz.prog 133 = some .u64 := by kernel_rfl
theorem tsz135 : sizeL Tryz.prog 135 = some 1 := by kernel_rfl
theorem tby135 : bytesL Tryz.prog 135 = some 4 := by kernel_rfl
theorem tag135 : isAggL Tryz.prog 135 = some false := by kernel_rfl
theorem tze135 : zeroL Tryz.prog 135 = some [(.lit (.int .u32 0))] := by kernel_rfl
theorem tpl135 : placesL Tryz.prog 135 = none := by kernel_rfl
theorem tar135 : arrL Tryz.prog 135 = none := by kernel_rfl
theorem tel135 : elemL Tryz.prog 135 = none := by kernel_rfl
theorem tki135 : kindL Tryz.prog 135 = some .u32 := by kernel_rfl
theorem tsz141 : sizeL Tryz.prog 141 = some 1 := by kernel_rfl
theorem tby141 : bytesL Tryz.prog 141 = some 24 := by kernel_rfl
theorem tag141 : isAggL Tryz.prog 141 = some false := by kernel_rfl
theorem tze141 : zeroL Tryz.prog 141 = some [(.lit (.slice none 0 0))] := by kernel_rfl
theorem tpl141 : placesL Tryz.prog 141 = none := by kernel_rfl
theorem tar141 : arrL Tryz.prog 141 = none := by kernel_rfl
theorem tel141 : elemL Tryz.prog 141 = some 82 := by kernel_rfl
theorem tsz145 : sizeL Tryz.prog 145 = some 2 := by kernel_rfl
theorem tby145 : bytesL Tryz.prog 145 = some 32 := by kernel_rfl
theorem tag145 : isAggL Tryz.prog 145 = some true := by kernel_rfl
theorem tze145 : zeroL Tryz.prog 145 = some [(.lit (.slice none 0 0)),(.lit (.int .i64 0))] := by kernel_rfl
theorem tpl145 : placesL Tryz.prog 145 = some [(0,1),(1,1)] := by kernel_rfl
theorem tar145 : arrL Tryz.prog 145 = none := by kernel_rfl
theorem tel145 : elemL Tryz.prog 145 = none := by kernel_rfl
theorem tfi145x0 : fieldL Tryz.prog 145 0 = some (0,141) := by kernel_rfl
theorem tfi145x1 : fieldL Tryz.prog 145 1 = some (1,3) := by kernel_rfl
theorem tsz146 : sizeL Tryz.prog 146 = some 2 := by kernel_rfl
theorem tby146 : bytesL Tryz.prog 146 = some 32 := by kernel_rfl
theorem tag146 : isAggL Tryz.prog 146 = some true := by kernel_rfl
theorem tze146 : zeroL Tryz.prog 146 = some [(.lit (.slice none 0 0)),(.lit (.int .i64 0))] := by kernel_rfl
theorem tpl146 : placesL Tryz.prog 146 = some [(0,1),(1,1)] := by kernel_rfl
theorem tar146 : arrL Tryz.prog 146 = none := by kernel_rfl
theorem tel146 : elemL Tryz.prog 146 = none := by kernel_rfl
theorem tfi146x0 : fieldL Tryz.prog 146 0 = some (0,141) := by kernel_rfl
theorem tfi146x1 : fieldL Tryz.prog 146 1 = some (1,3) := by kernel_rfl
theorem tsz148 : sizeL Tryz.prog 148 = some 1 := by kernel_rfl
theorem tby148 : bytesL Tryz.prog 148 = some 8 := by kernel_rfl
theorem tag148 : isAggL Tryz.prog 148 = some false := by kernel_rfl
theorem tze148 : zeroL Tryz.prog 148 = some [(.lit (.int .u64 0))] := by kernel_rfl
theorem tpl148 : placesL Tryz.prog 148 = none := by kernel_rfl
theorem tar148 : arrL Tryz.prog 148 = none := by kernel_rfl
theorem tel148 : elemL Tryz.prog 148 = none := by kernel_rfl
theorem tki148 : kindL Tryz.prog 148 = some .u64 := by kernel_rfl
theorem tsz162 : sizeL Tryz.prog 162 = some 1 := by kernel_rfl
theorem tby162 : bytesL Tryz.prog 162 = some 8 := by kernel_rfl
theorem tag162 : isAggL Tryz.prog 162 = some false := by kernel_rfl
theorem tze162 : zeroL Tryz.prog 162 = some [(.lit (.int .i64 0))] := by kernel_rfl
theorem tpl162 : placesL Tryz.prog 162 = none := by kernel_rfl
theorem tar162 : arrL Tryz.prog 162 = none := by kernel_rfl
theorem tel162 : elemL Tryz.prog 162 = none := by kernel_rfl
theorem tki162 : kindL Tryz.prog 162 = some .i64 := by kernel_rfl
theorem tsz182 : sizeL Tryz.prog 182 = some 1 := by kernel_rfl
theorem tby182 : bytesL Tryz.prog 182 = some 8 := by kernel_rfl
theorem tag182 : isAggL Tryz.prog 182 = some false := by kernel_rfl
theorem tze182 : zeroL Tryz.prog 182 = some [(.lit (.int .u64 0))] := by kernel_rfl
theorem tpl182 : placesL Tryz.prog 182 = none := by kernel_rfl
theorem tar182 : arrL Tryz.prog 182 = none := by kernel_rfl
theorem tel182 : elemL Tryz.prog 182 = none := by kernel_rfl
theorem tki182 : kindL Tryz.prog 182 = some .u64 := by kernel_rfl
theorem tsz212 : sizeL Tryz.prog 212 = some 0 := by kernel_rfl
theorem tby212 : bytesL Tryz.prog 212 = some 0 := by kernel_rfl
theorem tag212 : isAggL Tryz.prog 212 = some true := by kernel_rfl
theorem tze212 : zeroL Tryz.prog 212 = some [] := by kernel_rfl
theorem tpl212 : placesL Tryz.prog 212 = none := by kernel_rfl
theorem tel212 : elemL Tryz.prog 212 = none := by kernel_rfl
theorem tar212 : arrL Tryz.prog 212 = some (0,16) := by kernel_rfl
theorem tsz213 : sizeL Tryz.prog 213 = some 0 := by kernel_rfl
theorem tby213 : bytesL Tryz.prog 213 = some 0 := by kernel_rfl
theorem tag213 : isAggL Tryz.prog 213 = some true := by kernel_rfl
theorem tze213 : zeroL Tryz.prog 213 = some [] := by kernel_rfl
theorem tpl213 : placesL Tryz.prog 213 = some [(0,0)] := by kernel_rfl
theorem tar213 : arrL Tryz.prog 213 = none := by kernel_rfl
theorem tel213 : elemL Tryz.prog 213 = none := by kernel_rfl
theorem tfi213x0 : fieldL Tryz.prog 213 0 = some (0,212) := by kernel_rfl
theorem tsz224 : sizeL Tryz.prog 224 = some 1 := by kernel_rfl
theorem tby224 : bytesL Tryz.prog 224 = some 16 := by kernel_rfl
theorem tag224 : isAggL Tryz.prog 224 = some true := by kernel_rfl
theorem tze224 : zeroL Tryz.prog 224 = some [(.lit (.string ByteArray.empty))] := by kernel_rfl
theorem tpl224 : placesL Tryz.prog 224 = some [(0,1)] := by kernel_rfl
theorem tar224 : arrL Tryz.prog 224 = none := by kernel_rfl
theorem tel224 : elemL Tryz.prog 224 = none := by kernel_rfl
theorem tfi224x0 : fieldL Tryz.prog 224 0 = some (0,9) := by kernel_rfl
def tyA :=
 (And.intro (And.intro (And.intro (And.intro (And.intro (And.intro (And.intro (And.intro tsz2 tby2) (And.intro tag2 (And.intro tze2 tpl2))) (And.intro (And.intro tar2 (And.intro tel2 tki2)) (And.intro tsz3 (And.intro tby3 tag3)))) (And.intro (And.intro (And.intro tze3 (And.intro tpl3 tar3)) (And.intro tel3 (And.intro tki3 tsz4))) (And.intro (And.intro tby4 (And.intro tag4 tze4)) (And.intro tbo4 (And.intro tpl4 tar4))))) (And.intro (And.intro (And.intro (And.intro tel4 tsz5) (And.intro tby5 (And.intro tag5 tze5))) (And.intro (And.intro tpl5 (And.intro tar5 tel5)) (And.intro tki5 (And.intro tsz9 tby9)))) (And.intro (And.intro (And.intro tag9 (And.intro tze9 tpl9)) (And.intro tar9 (And.intro tel9 tsz12))) (And.intro (And.intro tby12 (And.intro tag12 tze12)) (And.intro tpl12 (And.intro tar12 tel12)))))) (And.intro (And.intro (And.intro (And.intro (And.intro tki12 tsz13) (And.intro tby13 (And.intro tag13 tze13))) (And.intro (And.intro tpl13 (And.intro tar13 tel13)) (And.intro tfi13x0 (And.intro tfi13x1 tsz21)))) (And.intro (And.intro (And.intro tby21 (And.intro tag21 tze21)) (And.intro tpl21 (And.intro tar21 tel21))) (And.intro (And.intro tki21 (And.intro tsz22 tby22)) (And.intro tag22 (And.intro tze22 tpl22))))) (And.intro (And.intro (And.intro (And.intro tar22 (And.intro tel22 tsz23)) (And.intro tby23 (And.intro tag23 tze23))) (And.intro (And.intro tpl23 (And.intro tar23 tel23)) (And.intro tfi23x0 (And.intro tfi23x1 tsz24)))) (And.intro (And.intro (And.intro tby24 (And.intro tag24 tze24)) (And.intro tpl24 (And.intro tar24 tel24))) (And.intro (And.intro tfi24x0 (And.intro tfi24x1 tsz27)) (And.intro tby27 (And.intro tag27 tze27))))))) (And.intro (And.intro (And.intro (And.intro (And.intro (And.intro tpl27 tar27) (And.intro tel27 (And.intro tki27 tsz33))) (And.intro (And.intro tby33 (And.intro tag33 tze33)) (And.intro tpl33 (And.intro tar33 tel33)))) (And.intro (And.intro (And.intro tsz34 (And.intro tby34 tag34)) (And.intro tze34 (And.intro tpl34 tar34))) (And.intro (And.intro tel34 (And.intro tsz43 tby43)) (And.intro tag43 (And.intro tze43 tpl43))))) (And.intro (And.intro (And.intro (And.intro tar43 tel43) (And.intro tfi43x0 (And.intro tfi43x1 tfi43x2))) (And.intro (And.intro tsz44 (And.intro tby44 tag44)) (And.intro tze44 (And.intro tpl44 tar44)))) (And.intro (And.intro (And.intro tel44 (And.intro tfi44x0 tfi44x1)) (And.intro tfi44x2 (And.intro tsz58 tby58))) (And.intro (And.intro tag58 (And.intro tze58 tpl58)) (And.intro tar58 (And.intro tel58 tki58)))))) (And.intro (And.intro (And.intro (And.intro (And.intro tsz65 tby65) (And.intro tag65 (And.intro tze65 tpl65))) (And.intro (And.intro tel65 (And.intro tar65 tsz66)) (And.intro tby66 (And.intro tag66 tze66)))) (And.intro (And.intro (And.intro tpl66 (And.intro tel66 tar66)) (And.intro tsz70 (And.intro tby70 tag70))) (And.intro (And.intro tze70 (And.intro tpl70 tar70)) (And.intro tel70 (And.intro tsz78 tby78))))) (And.intro (And.intro (And.intro (And.intro tag78 (And.intro tze78 tpl78)) (And.intro tar78 (And.intro tel78 tsz79))) (And.intro (And.intro tby79 (And.intro tag79 tze79)) (And.intro tpl79 (And.intro tar79 tel79)))) (And.intro (And.intro (And.intro tfi79x0 (And.intro tfi79x1 tsz80)) (And.intro tby80 (And.intro tag80 tze80))) (And.intro (And.intro tpl80 (And.intro tar80 tel80)) (And.intro tfi80x0 (And.intro tfi80x1 tsz81)))))))) (And.intro (And.intro (And.intro (And.intro (And.intro (And.intro (And.intro tby81 tag81) (And.intro tze81 (And.intro tpl81 tar81))) (And.intro (And.intro tel81 (And.intro tfi81x0 tfi81x1)) (And.intro tsz82 (And.intro tby82 tag82)))) (And.intro (And.intro (And.intro tze82 (And.intro tpl82 tar82)) (And.intro tel82 (And.intro tfi82x0 tfi82x1))) (And.intro (And.intro tsz86 (And.intro tby86 tag86)) (And.intro tze86 (And.intro tpl86 tar86))))) (And.intro (And.intro (And.intro (And.intro tel86 tsz88) (And.intro tby88 (And.intro tag88 tze88))) (And.intro (And.intro tpl88 (And.intro tar88 tel88)) (And.intro tfi88x0 (And.intro tfi88x1 tfi88x2)))) (And.intro (And.intro (And.intro tsz89 (And.intro tby89 tag89)) (And.intro tze89 (And.intro tpl89 tar89))) (And.intro (And.intro tel89 (And.intro tfi89x0 tfi89x1)) (And.intro tfi89x2 (And.intro tsz90 tby90)))))) (And.intro (And.intro (And.intro (And.intro (And.intro tag90 tze90) (And.intro tpl90 (And.intro tar90 tel90))) (And.intro (And.intro tsz91 (And.intro tby91 tag91)) (And.intro tze91 (And.intro tpl91 tar91)))) (And.intro (And.intro (And.intro tel91 (And.intro tsz92 tby92)) (And.intro tag92 (And.intro tze92 tpl92))) (And.intro (And.intro tar92 (And.intro tel92 tfi92x0)) (And.intro tsz93 (And.intro tby93 tag93))))) (And.intro (And.intro (And.intro (And.intro tze93 (And.intro tpl93 tar93)) (And.intro tel93 (And.intro tfi93x0 tsz117))) (And.intro (And.intro tby117 (And.intro tag117 tze117)) (And.intro tpl117 (And.intro tar117 tel117)))) (And.intro (And.intro (And.intro tsz120 (And.intro tby120 tag120)) (And.intro tze120 (And.intro tpl120 tar120))) (And.intro (And.intro tel120 (And.intro tfi120x0 tfi120x1)) (And.intro tsz121 (And.intro tby121 tag121))))))) (And.intro (And.intro (And.intro (And.intro (And.intro (And.intro tze121 tpl121) (And.intro tar121 (And.intro tel121 tfi121x0))) (And.intro (And.intro tfi121x1 (And.intro tsz133 tby133)) (And.intro tag133 (And.intro tze133 tpl133)))) (And.intro (And.intro (And.intro tar133 (And.intro tel133 tki133)) (And.intro tsz135 (And.intro tby135 tag135))) (And.intro (And.intro tze135 (And.intro tpl135 tar135)) (And.intro tel135 (And.intro tki135 tsz141))))) (And.intro (And.intro (And.intro (And.intro tby141 (And.intro tag141 tze141)) (And.intro tpl141 (And.intro tar141 tel141))) (And.intro (And.intro tsz145 (And.intro tby145 tag145)) (And.intro tze145 (And.intro tpl145 tar145)))) (And.intro (And.intro (And.intro tel145 (And.intro tfi145x0 tfi145x1)) (And.intro tsz146 (And.intro tby146 tag146))) (And.intro (And.intro tze146 (And.intro tpl146 tar146)) (And.intro tel146 (And.intro tfi146x0 tfi146x1)))))) (And.intro (And.intro (And.intro (And.intro (And.intro tsz148 tby148) (And.intro tag148 (And.intro tze148 tpl148))) (And.intro (And.intro tar148 (And.intro tel148 tki148)) (And.intro tsz162 (And.intro tby162 tag162)))) (And.intro (And.intro (And.intro tze162 (And.intro tpl162 tar162)) (And.intro tel162 (And.intro tki162 tsz182))) (And.intro (And.intro tby182 (And.intro tag182 tze182)) (And.intro tpl182 (And.intro tar182 tel182))))) (And.intro (And.intro (And.intro (And.intro tki182 (And.intro tsz212 tby212)) (And.intro tag212 (And.intro tze212 tpl212))) (And.intro (And.intro tel212 (And.intro tar212 tsz213)) (And.intro tby213 (And.intro tag213 tze213)))) (And.intro (And.intro (And.intro tpl213 (And.intro tar213 tel213)) (And.intro tfi213x0 (And.intro tsz224 tby224))) (And.intro (And.intro tag224 (And.intro tze224 tpl224)) (And.intro tar224 (And.intro tel224 tfi224x0)))))))))
def smY := And.intro smZ tyA
end Go.Proofs.YtlbckpljefadpaaGreat
namespace Go.Proofs.YtlbckpljefadpaaGreat
open Go Go.Lg
instance : Laid Tryz.prog := ⟨[]⟩
theorem laid_none (St : Nat → Prop) (hp : Array Obj) : LaidOk Tryz.prog St hp := fun _ h => nomatch h
end Go.Proofs.YtlbckpljefadpaaGreat
namespace Go.Num
def val : List Nat → Nat
 | [] => 0
 | d :: ds => d + 4294967296 * val ds
def OkD (ds : List Nat) : Prop := ∀ d ∈ ds,d < 4294967296
theorem OkD.nil : OkD [] := by simp [OkD]
theorem OkD.cons {d : Nat} {ds : List Nat} (h : d < 4294967296) (hs : OkD ds) : OkD (d :: ds) := by
 intro x hx
 rcases List.mem_cons.1 hx with rfl | hx
 ·exact h
 ·exact hs x hx
theorem OkD.head {d : Nat} {ds : List Nat} (h : OkD (d :: ds)) : d < 4294967296 := h d (by simp)
theorem OkD.tail {d : Nat} {ds : List Nat} (h : OkD (d :: ds)) : OkD ds := fun x hx => h x (by simp [hx])
theorem OkD.append {a b : List Nat} (ha : OkD a) (hb : OkD b) : OkD (a ++ b) := fun x hx => (List.mem_append.1 hx).elim (ha x) (hb x)
theorem OkD.take {a : List Nat} (ha : OkD a) (k : Nat) : OkD (a.take k) := fun x hx => ha x (List.mem_of_mem_take hx)
theorem OkD.drop {a : List Nat} (ha : OkD a) (k : Nat) : OkD (a.drop k) := fun x hx => ha x (List.mem_of_mem_drop hx)
theorem OkD.getD {a : List Nat} (ha : OkD a) (k : Nat) : a.getD k 0 < 4294967296 := by
 rw [List.getD_eq_getElem?_getD]
 cases h : a[k]? with
 | none => simp
 | some x => exact ha x (List.mem_of_getElem? h)
theorem OkD.replicate (n : Nat) : OkD (List.replicate n 0) := fun x hx => by rw [(List.mem_replicate.1 hx).2];omega
theorem val_append (a b : List Nat) : val (a ++ b) = val a + 4294967296 ^ a.length * val b := by
 induction a with
 | nil => simp [val]
 | cons d a ih =>
   simp only [List.cons_append,val,ih,List.length_cons,Nat.pow_succ,Nat.mul_add]
   rw [← Nat.mul_assoc,Nat.mul_comm (4294967296 ^ a.length) 4294967296]
   omega
theorem val_replicate (n : Nat) : val (List.replicate n 0) = 0 := by
 induction n with
 | zero => rfl
 | succ n ih => simp [List.replicate_succ,val,ih]
theorem val_snoc (a : List Nat) (d : Nat) : val (a ++ [d]) = val a + 4294967296 ^ a.length * d := by
 rw [val_append];simp [val]
theorem val_lt {a : List Nat} (h : OkD a) : val a < 4294967296 ^ a.length := by
 induction a with
 | nil => simp [val]
 | cons d a ih =>
   have h1 := ih h.tail
   have h2 := h.head
   simp only [val,List.length_cons,Nat.pow_succ]
   generalize 4294967296 ^ a.length = p at h1
   have : val a + 1 ≤ p := h1
   have := Nat.mul_le_mul_left 4294967296 this
   omega
theorem take_snoc {a : List Nat} {k : Nat} (h : k < a.length) : a.take (k + 1) = a.take k ++ [a.getD k 0] := by
 rw [List.take_succ_eq_append_getElem h]
 simp [List.getD,h]
theorem val_take_succ {a : List Nat} {k : Nat} (h : k < a.length) : val (a.take (k + 1)) = val (a.take k) + 4294967296 ^ k * a.getD k 0 := by
 rw [take_snoc h,val_snoc,List.length_take,Nat.min_eq_left (Nat.le_of_lt h)]
theorem val_split (a : List Nat) (k : Nat) (h : k ≤ a.length) : val a = val (a.take k) + 4294967296 ^ k * val (a.drop k) := by
 conv => lhs;rw [← List.take_append_drop k a]
 rw [val_append,List.length_take,Nat.min_eq_left h]
theorem drop_cons {a : List Nat} {k : Nat} (h : k < a.length) : a.drop k = a.getD k 0 :: a.drop (k + 1) := by
 rw [List.drop_eq_getElem_cons h]
 simp [List.getD,h]
def digs (n : Nat) : List Nat := if n = 0 then [] else n % 4294967296 :: digs (n / 4294967296)
termination_by n
decreasing_by omega
theorem digs_zero : digs 0 = [] := by rw [digs];simp
theorem digs_pos {n : Nat} (h : n ≠ 0) : digs n = n % 4294967296 :: digs (n / 4294967296) := by
 conv => lhs;rw [digs]
 simp [h]
theorem digs_small {n : Nat} (h0 : n ≠ 0) (h : n < 4294967296) : digs n = [n] := by
 rw [digs_pos h0,Nat.div_eq_of_lt h,digs_zero,Nat.mod_eq_of_lt h]
theorem digs_ok (n : Nat) : OkD (digs n) := by
 induction n using Nat.strongRecOn with
 | _ n ih =>
   by_cases h : n = 0
   · subst h;rw [digs_zero];exact OkD.nil
   · rw [digs_pos h]
     exact OkD.cons (Nat.mod_lt _ (by omega)) (ih _ (by omega))
theorem val_digs (n : Nat) : val (digs n) = n := by
 induction n using Nat.strongRecOn with
 | _ n ih =>
   by_cases h : n = 0
   · subst h;rw [digs_zero];rfl
   · rw [digs_pos h,val,ih _ (by omega)]
     omega
theorem digs_eq_nil {n : Nat} : digs n = [] ↔ n = 0 := by
 constructor
 ·intro h
  have := val_digs n
  rw [h] at this
  exact this.symm
 ·rintro rfl;exact digs_zero
theorem val_zero_last : ∀ {a : List Nat},val a = 0 → ∀ d ∈ a,d = 0
 | [],_,d,hd => by simp at hd
 | x :: a,h,d,hd => by
   simp only [val] at h
   rcases List.mem_cons.1 hd with rfl | hd
   · omega
   · exact val_zero_last (a := a) (by omega) d hd
theorem digs_val_last : ∀ {a : List Nat},OkD a → (∀ h : a ≠ [],a.getLast h ≠ 0) → digs (val a) = a
 | [],_,_ => digs_zero
 | d :: a,hok,hl => by
   have h2 := hok.head
   cases a with
   | nil =>
     have hd : d ≠ 0 := by simpa using hl (by simp)
     simp only [val,Nat.mul_zero,Nat.add_zero]
     exact digs_small hd h2
   | cons e a =>
     have hl' : ∀ h : (e :: a) ≠ [],(e :: a).getLast h ≠ 0 := fun h => by
       have := hl (by simp)
       rwa [List.getLast_cons h] at this
     have ih := digs_val_last hok.tail hl'
     have hpos : val (e :: a) ≠ 0 := fun hz => hl' (by simp) (val_zero_last hz _ (List.getLast_mem (by simp)))
     have hv : val (d :: e :: a) = d + 4294967296 * val (e :: a) := rfl
     rw [hv,digs_pos (by omega),show (d + 4294967296 * val (e :: a)) % 4294967296 = d by omega,show (d + 4294967296 * val (e :: a)) / 4294967296 = val (e :: a) by omega,ih]
def trimL (ds : List Nat) : List Nat := (ds.reverse.dropWhile (· == 0)).reverse
theorem trimL_snoc_zero (ds : List Nat) : trimL (ds ++ [0]) = trimL ds := by simp [trimL]
theorem trimL_snoc {ds : List Nat} {d : Nat} (h : d ≠ 0) : trimL (ds ++ [d]) = ds ++ [d] := by simp [trimL,h]
theorem trimL_take_zero {ds : List Nat} {k : Nat} (hk : k < ds.length) (h0 : ds.getD k 0 = 0) : trimL (ds.take (k + 1)) = trimL (ds.take k) := by
 rw [take_snoc hk,h0,trimL_snoc_zero]
theorem trimL_take_nz {ds : List Nat} {k : Nat} (hk : k < ds.length) (h0 : ds.getD k 0 ≠ 0) : trimL (ds.take (k + 1)) = ds.take (k + 1) := by
 rw [take_snoc hk,trimL_snoc h0]
theorem trimL_digs {ds : List Nat} (h : OkD ds) : trimL ds = digs (val ds) := by
 have key : ∀ (n : Nat) (ds : List Nat),ds.length = n → OkD ds → trimL ds = digs (val ds) := by
  intro n
  induction n with
  | zero =>
    intro ds hl _
    have : ds = [] := List.eq_nil_of_length_eq_zero hl
    subst this
    simp [trimL,val,digs_zero]
  | succ n ih =>
    intro ds hl hok
    have e : ds = ds.take n ++ [ds.getD n 0] := by rw [← take_snoc (by omega),List.take_of_length_le (by omega)]
    by_cases h0 : ds.getD n 0 = 0
    · rw [e,h0,trimL_snoc_zero,val_snoc,Nat.mul_zero,Nat.add_zero]
      exact ih _ (by rw [List.length_take];omega) (hok.take n)
    · rw [e,trimL_snoc h0,← e]
      refine (digs_val_last hok fun hne => ?_).symm
      have : ds.getLast hne = ds.getD n 0 := by
        rw [List.getLast_eq_getElem]
        simp [List.getD,hl]
      rw [this];exact h0
 exact key _ ds rfl h
theorem length_digs_le {n k : Nat} (h : n < 4294967296 ^ k) : (digs n).length ≤ k := by
 induction k generalizing n with
 | zero =>
   have : n = 0 := by simpa using h
   subst this;rw [digs_zero];simp
 | succ k ih =>
   by_cases h0 : n = 0
   · subst h0;rw [digs_zero];simp
   · rw [digs_pos h0,List.length_cons]
     have : n / 4294967296 < 4294967296 ^ k := by
       rw [Nat.pow_succ] at h
       exact Nat.div_lt_of_lt_mul (by rw [Nat.mul_comm];exact h)
     have := ih this
     omega
theorem lt_pow_digs (n : Nat) : n < 4294967296 ^ (digs n).length := by
 have := val_lt (digs_ok n)
 rwa [val_digs] at this
theorem pow_le_digs {n : Nat} (h : n ≠ 0) : 4294967296 ^ ((digs n).length - 1) ≤ n := by
 rcases Nat.lt_or_ge n (4294967296 ^ ((digs n).length - 1)) with hlt | hge
 ·have h1 := length_digs_le hlt
  have h2 : (digs n).length ≠ 0 := fun e => h (digs_eq_nil.1 (List.eq_nil_of_length_eq_zero e))
  omega
 ·exact hge
theorem lt_of_length_lt {n m : Nat} (h : (digs n).length < (digs m).length) : n < m := by
 have h0 : m ≠ 0 := fun e => by subst e;rw [digs_zero] at h;simp at h
 exact Nat.lt_of_lt_of_le (lt_pow_digs n) (Nat.le_trans (Nat.pow_le_pow_right (by omega) (by omega)) (pow_le_digs h0))
theorem length_le_of_le {n m : Nat} (h : n ≤ m) : (digs n).length ≤ (digs m).length := by
 rcases Nat.lt_or_ge (digs m).length (digs n).length with hlt | hge
 ·have := lt_of_length_lt hlt;omega
 ·exact hge
theorem length_trim_le {ds : List Nat} (h : OkD ds) : (digs (val ds)).length ≤ ds.length := length_digs_le (val_lt h)
theorem digs_last {n : Nat} (h : n ≠ 0) : (digs n).getD ((digs n).length - 1) 0 ≠ 0 := by
 intro h0
 have hlen : (digs n).length ≠ 0 := fun e => h (digs_eq_nil.1 (List.eq_nil_of_length_eq_zero e))
 have h1 := val_split (digs n) ((digs n).length - 1) (by omega)
 rw [drop_cons (by omega),h0] at h1
 have h2 : (digs n).drop ((digs n).length - 1 + 1) = [] := by simp;omega
 rw [h2,val_digs] at h1
 simp only [val,Nat.mul_zero,Nat.add_zero] at h1
 have h3 := val_lt ((digs_ok n).take ((digs n).length - 1))
 have h4 := pow_le_digs h
 rw [List.length_take,Nat.min_eq_left (by omega)] at h3
 omega
def cmpN (n m : Nat) : Int := if n < m then -1 else if n = m then 0 else 1
theorem cmp_at {a b : List Nat} {k : Nat} (ha : OkD a) (hl : a.length = b.length) (hk : k < a.length) (hd : a.drop (k + 1) = b.drop (k + 1)) (hlt : a.getD k 0 < b.getD k 0) : val a < val b := by
 have h1 := val_split a k (by omega)
 have h2 := val_split b k (by omega)
 rw [drop_cons (by omega),val] at h1
 rw [drop_cons (by omega),val,← hd] at h2
 have h3 := val_lt (ha.take k)
 rw [List.length_take,Nat.min_eq_left (by omega)] at h3
 rw [h1,h2]
 generalize 4294967296 ^ k = p at *
 generalize val (List.drop (k + 1) a) = q at *
 have h4 : p * (a.getD k 0 + 4294967296 * q) + p ≤ p * (b.getD k 0 + 4294967296 * q) := by
  have : p * (a.getD k 0 + 4294967296 * q) + p = p * (a.getD k 0 + 1 + 4294967296 * q) := by
   rw [Nat.add_right_comm,Nat.mul_add p _ 1,Nat.mul_one]
  rw [this]
  exact Nat.mul_le_mul_left _ (by omega)
 omega
theorem ext_digs : ∀ {a b : List Nat},OkD a → OkD b → a.length = b.length → val a = val b → a = b
 | [],[],_,_,_,_ => rfl
 | [],_ :: _,_,_,hl,_ => by simp at hl
 | _ :: _,[],_,_,hl,_ => by simp at hl
 | x :: a,y :: b,ha,hb,hl,hv => by
   have h1 := ha.head
   have h2 := hb.head
   simp only [val] at hv
   have : x = y := by omega
   subst this
   rw [ext_digs ha.tail hb.tail (by simpa using hl) (by omega)]
def padL : Nat → Nat → List Nat
 | 0,_ => []
 | k + 1,v => v % 4294967296 :: padL k (v / 4294967296)
theorem padL_length (k : Nat) : ∀ v,(padL k v).length = k := by
 induction k with
 | zero => intro v;rfl
 | succ k ih => intro v;simp [padL,ih]
theorem padL_ok (k : Nat) : ∀ v,OkD (padL k v) := by
 induction k with
 | zero => intro v;exact OkD.nil
 | succ k ih => intro v;exact OkD.cons (by omega) (ih _)
theorem val_padL {k : Nat} : ∀ {v : Nat},v < 4294967296 ^ k → val (padL k v) = v := by
 induction k with
 | zero => intro v h; have : v = 0 := by simpa using h
           subst this;rfl
 | succ k ih =>
   intro v h
   rw [padL,val,ih (by rw [Nat.pow_succ] at h;omega)]
   omega
theorem eq_padL {r : List Nat} {v k : Nat} (h : OkD r) (hl : r.length = k) (hv : val r = v) : r = padL k v := by
 subst hl;subst hv
 exact ext_digs h (padL_ok _ _) (padL_length _ _).symm (val_padL (val_lt h)).symm
theorem val_take_next (a : List Nat) (k : Nat) : val (a.take (k + 1)) = val (a.take k) + 4294967296 ^ k * a.getD k 0 := by
 rcases Nat.lt_or_ge k a.length with h | h
 ·exact val_take_succ h
 ·rw [List.take_of_length_le (by omega),List.take_of_length_le h]
  have : a.getD k 0 = 0 := by simp [List.getD,h]
  rw [this];omega
theorem val_set_next {r : List Nat} {k d : Nat} (h : k < r.length) : val ((r.set k d).take (k + 1)) = val (r.take k) + 4294967296 ^ k * d := by
 rw [val_take_next]
 have h1 : (r.set k d).getD k 0 = d := by simp [List.getD,h]
 rw [h1]
 simp [List.take_set_of_le]
theorem OkD.set {r : List Nat} (h : OkD r) {k d : Nat} (hd : d < 4294967296) : OkD (r.set k d) := by
 intro x hx
 rcases List.mem_or_eq_of_mem_set hx with hx | rfl
 ·exact h x hx
 ·exact hd
theorem add_next {v p c A B x y s : Nat} (h : v + p * c = A + B) (hs : s = x + y + c) : v + p * (s % 4294967296) + p * 4294967296 * (s / 4294967296) = (A + p * x) + (B + p * y) := by
 have h1 : s % 4294967296 + 4294967296 * (s / 4294967296) = x + y + c := by omega
 have h2 : p * (s % 4294967296) + p * 4294967296 * (s / 4294967296) = p * x + p * y + p * c := by
  rw [Nat.mul_assoc,← Nat.mul_add,h1,Nat.mul_add,Nat.mul_add]
 omega
theorem sub_next {v p c c' A B x y d : Nat} (h : v + B = A + p * c) (hs : d + y + c = x + 4294967296 * c') : v + p * d + (B + p * y) = (A + p * x) + p * 4294967296 * c' := by
 have h2 : p * d + p * y + p * c = p * x + p * 4294967296 * c' := by
  rw [Nat.mul_assoc,← Nat.mul_add,← Nat.mul_add,← Nat.mul_add,hs,Nat.mul_add]
 omega
theorem mul_bound {x y : Nat} (hx : x < 4294967296) (hy : y < 4294967296) : x * y ≤ 18446744065119617025 :=
 Nat.le_trans (Nat.mul_le_mul (show x ≤ 4294967295 by omega) (show y ≤ 4294967295 by omega)) (by omega)
theorem mul_next {v p c A q x y z X s : Nat} (h : v + p * q * c = A + p * x * X) (hs : s = x * y + z + c) : v + p * q * (s % 4294967296) + p * q * 4294967296 * (s / 4294967296) = (A + p * q * z) + p * x * (X + q * y) := by
 have h1 : s % 4294967296 + 4294967296 * (s / 4294967296) = x * y + z + c := by omega
 have h2 : p * q * (s % 4294967296) + p * q * 4294967296 * (s / 4294967296) = p * q * (x * y) + p * q * z + p * q * c := by
  rw [Nat.mul_assoc (p * q) 4294967296,← Nat.mul_add,h1,Nat.mul_add,Nat.mul_add]
 have h3 : p * q * (x * y) = p * x * (q * y) := by ac_rfl
 rw [Nat.mul_add (p * x)]
 omega
theorem getD_drop_eq {a b : List Nat} {k : Nat} (h : a.drop k = b.drop k) : a.getD k 0 = b.getD k 0 := by
 have h1 : (a.drop k).head? = (b.drop k).head? := by rw [h]
 rw [List.head?_drop,List.head?_drop] at h1
 rw [List.getD_eq_getElem?_getD,List.getD_eq_getElem?_getD,h1]
theorem drop_set_next {r a : List Nat} {k d : Nat} (h : r.drop k = a.drop k) : (r.set k d).drop (k + 1) = a.drop (k + 1) := by
 rw [List.drop_set_of_lt (by omega),← List.drop_drop,h,List.drop_drop]
theorem drop_set_self {q : List Nat} {k d : Nat} (h : k < q.length) : (q.set k d).drop k = d :: q.drop (k + 1) := by
 rw [drop_cons (by simpa using h)]
 have h1 : (q.set k d).getD k 0 = d := by simp [List.getD,h]
 rw [h1,List.drop_set_of_lt (by omega)]
theorem short_next {H x d : Nat} (hd : 0 < d) : (x + 4294967296 * H) / d = (H % d * 4294967296 + x) / d + 4294967296 * (H / d) ∧ (x + 4294967296 * H) % d = (H % d * 4294967296 + x) % d := by
 have h1 : x + 4294967296 * H = (H % d * 4294967296 + x) + d * (4294967296 * (H / d)) := by
  have h2 : d * (4294967296 * (H / d)) = 4294967296 * (d * (H / d)) := by ac_rfl
  have h3 := Nat.div_add_mod H d
  rw [h2]
  omega
 rw [h1]
 exact ⟨Nat.add_mul_div_left _ _ hd,Nat.add_mul_mod_self_left _ _ _⟩
theorem pow_split {s : Nat} (h : s < 32) : ∃ t,4294967296 = 2 ^ s * t ∧ 2 ^ s * 2 ≤ 4294967296 := by
 refine ⟨2 ^ (32 - s),?_,?_⟩
 ·rw [← Nat.pow_add,show s + (32 - s) = 32 by omega]
 ·rw [← Nat.pow_succ]
  exact Nat.le_trans (Nat.pow_le_pow_right (by omega) (show s + 1 ≤ 32 by omega)) (by omega)
theorem shift_bounds {x s : Nat} (hx : x < 4294967296) (hs : s < 32) : ∃ y,x * 2 ^ s % 4294967296 = 2 ^ s * y ∧ 2 ^ s * y + 2 ^ s ≤ 4294967296 ∧ x * 2 ^ s / 4294967296 < 2 ^ s ∧ x * 2 ^ s < 9223372036854775808 := by
 obtain ⟨t,ht,hle⟩ := pow_split hs
 have hp : 0 < 2 ^ s := Nat.pos_of_ne_zero (by simp)
 have h0 : x * 2 ^ s % 4294967296 = 2 ^ s * (x % t) := by
  conv => lhs;rw [ht,Nat.mul_comm x]
  exact Nat.mul_mod_mul_left _ _ _
 have ht0 : 0 < t := by
  rcases Nat.eq_zero_or_pos t with h | h
  ·subst h;simp at ht
  ·exact h
 refine ⟨x % t,h0,?_,?_,?_⟩
 ·have := Nat.mul_le_mul_left (2 ^ s) (show x % t + 1 ≤ t from Nat.mod_lt _ ht0)
  rw [← ht,Nat.mul_add,Nat.mul_one] at this
  exact this
 ·refine Nat.div_lt_of_lt_mul ?_
  exact Nat.mul_lt_mul_of_pos_right hx hp
 ·have h1 : 2 ^ s ≤ 2147483648 := by omega
  have := Nat.mul_le_mul (show x ≤ 4294967295 by omega) h1
  omega
theorem shift_next {v q ri A p x y h z : Nat} (hv : v + q * ri = A * p) (hz : z = x * p) (hy : z % 4294967296 = y) (hh : z / 4294967296 = h) : v + q * (ri + y) + q * 4294967296 * h = (A + q * x) * p := by
 have h1 : y + 4294967296 * h = x * p := by omega
 rw [Nat.add_mul,← hv,Nat.mul_assoc q x,← h1,Nat.mul_add,Nat.mul_add,Nat.mul_assoc q]
 omega
theorem val_drop_next (a : List Nat) (i : Nat) : val (a.drop i) = a.getD i 0 + 4294967296 * val (a.drop (i + 1)) := by
 rcases Nat.lt_or_ge i a.length with h | h
 ·rw [drop_cons h,val]
 ·rw [List.drop_of_length_le h,List.drop_of_length_le (by omega)]
  have : a.getD i 0 = 0 := by simp [List.getD,h]
  rw [this];rfl
theorem val_div {a : List Nat} (ha : OkD a) {i : Nat} (hi : i ≤ a.length) : val a / 4294967296 ^ i = val (a.drop i) := by
 have h1 := val_split a i hi
 have h2 := val_lt (ha.take i)
 rw [List.length_take,Nat.min_eq_left hi] at h2
 rw [h1, Nat.add_mul_div_left _ _ (by have : 0 < 4294967296 ^ i := Nat.pow_pos (by omega)
                                      exact this),Nat.div_eq_of_lt h2,Nat.zero_add]
theorem unshift_next {a : List Nat} (ha : OkD a) {i s : Nat} (hi : i < a.length) (hs : s < 32) :
  (val a / 2 ^ s) % 4294967296 ^ (i + 1) = (val a / 2 ^ s) % 4294967296 ^ i + 4294967296 ^ i * ((a.getD (i + 1) 0 * 4294967296 + a.getD i 0) / 2 ^ s % 4294967296) := by
 obtain ⟨t,ht,_⟩ := pow_split hs
 have hp : 0 < 2 ^ s := Nat.two_pow_pos s
 rw [Nat.mod_pow_succ]
 congr 2
 rw [Nat.div_div_eq_div_mul,Nat.mul_comm,← Nat.div_div_eq_div_mul,val_div ha (by omega),val_drop_next,val_drop_next]
 have h1 : a.getD i 0 + 4294967296 * (a.getD (i + 1) 0 + 4294967296 * val (a.drop (i + 1 + 1))) = (a.getD (i + 1) 0 * 4294967296 + a.getD i 0) + 2 ^ s * (4294967296 * (t * val (a.drop (i + 1 + 1)))) := by
  have : 2 ^ s * (4294967296 * (t * val (a.drop (i + 1 + 1)))) = (2 ^ s * t) * 4294967296 * val (a.drop (i + 1 + 1)) := by ac_rfl
  rw [this,← ht]
  omega
 rw [h1,Nat.add_mul_div_left _ _ hp,Nat.add_mul_mod_self_left]
end Go.Num
namespace Go.Proofs.YtlbckpljefadpaaGreat
open Go Go.Lg Go.Num
set_option maxRecDepth 100000
attribute [local irreducible] Go.Lg.lrun Go.Lg.lwp Go.Lg.exThen Go.Lg.exBlk Go.Lg.keep Go.Lg.goodPost
theorem mix : Tryz.prog.follows .mixedOrders = true := by kernel_rfl
def u32 (n : Nat) : LV := .lit (.int .u32 (n : Int))
def u64 (n : Nat) : LV := .lit (.int .u64 (n : Int))
def i64 (n : Int) : LV := .lit (.int .i64 n)
def bl (b : Bool) : LV := .lit (.bool b)
def encI (z : Int) : LV := .agg [bl (decide (z < 0)),dg (digs z.natAbs)]
theorem trimmed_raw (ds : List Nat) (hlen : ds.length ≤ 1099511627776) : PureGood Tryz.prog 114 [dg ds] (dg (trimL ds)) := by
 refine good_of_lwp mix Tryz.func114 rfl (by decide) (nt := 21) rfl (rs := [.tmp 2]) rfl (nle rfl) ?_
 (repeat (first|apply zO (by decide +kernel)|apply zP (by decide +kernel)|(apply zS;(case h=>constructor<;>decide))|((first|apply l_go rfl|apply c_dec);(case hs=>(simp (disch := first|omega|exact kD rfl|exact kX rfl) only [smY,simprocAttr,bl,u32,u64,i64];exact rfl));first|refine c_bt ?_|refine c_bf ?_|refine zq ?_)))
 refine w_loop (α := {k : Nat // k ≤ ds.length ∧ trimL ds = trimL (ds.take k)}) (fun k => st 21 (lk [(0,.sl k.1 (dgs (ds.take k.1))),(2,nilL)]) (lkH []) 0) (fun k => k.1) ⟨ds.length,Nat.le_refl _,by simp⟩ ?_ ?_
 ·(refine Sub.plain ?_;simp only [smF,dg,renL,renLs,simprocAttr,bl,u32,u64,i64])
 ·rintro ⟨k,hk,ht⟩
  simp only [st]
  rcases k with _ | k
  ·(repeat (first|apply zO (by decide +kernel)|apply zP (by decide +kernel)|(apply zS;(case h=>constructor<;>decide))|((first|apply l_go rfl|apply c_dec);(case hs=>(simp (disch := first|omega|exact kD rfl|exact kX rfl) only [smY,simprocAttr,bl,u32,u64,i64];exact rfl));first|refine c_bt ?_|refine c_bf ?_|refine zq ?_)))
   ((first|apply g_ret|apply g_end);case hres => (simp only [smR];simp (disch := first|omega|exact kD rfl|exact kX rfl) only [smY,simprocAttr,bl,u32,u64,i64];exact rfl))
   simp (disch := first|omega|exact kD rfl|exact kX rfl) only [smY,simprocAttr,bl,u32,u64,i64]
   rw [ht]
   rfl
  ·have hg : (ds.take (k + 1)).getD k 0 = ds.getD k 0 := by simp [List.getD,List.getElem?_take]
   have hlen2 : (ds.take (k + 1)).length = k + 1 := by rw [List.length_take];omega
   by_cases h0 : ds.getD k 0 = 0
   ·have hd : (ds.take (k + 1)).getD k 0 = 0 := by rw [hg,h0]
    (repeat (first|apply zO (by decide +kernel)|apply zP (by decide +kernel)|(apply zS;(case h=>constructor<;>decide))|((first|apply l_go rfl|apply c_dec);(case hs=>(simp (disch := first|omega|exact kD rfl|exact kX rfl) only [smY,simprocAttr,bl,u32,u64,i64];exact rfl));first|refine c_bt ?_|refine c_bf ?_|refine zq ?_)))
    refine ⟨⟨k,by omega,by rw [ht,trimL_take_zero (by omega) h0]⟩,?_,Nat.lt_succ_self k⟩
    (refine Sub.plain ?_;simp only [smF,dg,renL,renLs,simprocAttr,bl,u32,u64,i64])
   ·have hd : ¬ (ds.take (k + 1)).getD k 0 = 0 := by rw [hg];exact h0
    (repeat (first|apply zO (by decide +kernel)|apply zP (by decide +kernel)|(apply zS;(case h=>constructor<;>decide))|((first|apply l_go rfl|apply c_dec);(case hs=>(simp (disch := first|omega|exact kD rfl|exact kX rfl) only [smY,simprocAttr,bl,u32,u64,i64];exact rfl));first|refine c_bt ?_|refine c_bf ?_|refine zq ?_)))
    ((first|apply g_ret|apply g_end);case hres => (simp only [smR];simp (disch := first|omega|exact kD rfl|exact kX rfl) only [smY,simprocAttr,bl,u32,u64,i64];exact rfl))
    simp (disch := first|omega|exact kD rfl|exact kX rfl) only [smY,simprocAttr,bl,u32,u64,i64]
    rw [ht,trimL_take_nz (by omega) h0]
    simp [dg,Nat.min_eq_left hk]
theorem trimmed_good {ds : List Nat} (hok : OkD ds) (hlen : ds.length ≤ 1099511627776) : PureGood Tryz.prog 114 [dg ds] (dg (digs (val ds))) := by
 rw [← trimL_digs hok];exact trimmed_raw ds hlen
theorem add32_good {x y c : Nat} (hx : x < 4294967296) (hy : y < 4294967296) (hc : c < 4294967296) :
  PureGood Tryz.prog 173 [u32 x,u32 y,u32 c] (.tup [u32 ((x + y + c) % 4294967296),u32 ((x + y + c) / 4294967296)]) := by
 unfold u32
 refine good_of_lwp mix Tryz.func173 rfl (by decide) (nt := 22) rfl (rs := [.tmp 6,.tmp 7]) rfl (nle rfl) ?_
 (repeat (first|apply zO (by decide +kernel)|apply zP (by decide +kernel)|(apply zS;(case h=>constructor<;>decide))|((first|apply l_go rfl|apply c_dec);(case hs=>(simp (disch := first|omega|exact kD rfl|exact kX rfl) only [smY,simprocAttr,bl,u32,u64,i64];exact rfl));first|refine c_bt ?_|refine c_bf ?_|refine zq ?_)))
 ((first|apply g_ret|apply g_end);case hres => (simp only [smR];simp (disch := first|omega|exact kD rfl|exact kX rfl) only [smY,simprocAttr,bl,u32,u64,i64];exact rfl))
 simp (disch := first|omega|exact kD rfl|exact kX rfl) only [smY,simprocAttr,bl,u32,u64,i64]
 simp only [Option.some.injEq,LV.tup.injEq,LV.agg.injEq,LV.sl.injEq,List.cons.injEq,LV.lit.injEq,Value.int.injEq,Value.bool.injEq,true_and,and_true,u32,u64,i64,bl,wrap_u32_mod,wrap_u64_mod]
 omega
theorem signed_good {neg : Bool} {ds : List Nat} (hok : OkD ds) (hlen : ds.length ≤ 1099511627776) :
  PureGood Tryz.prog 95 [bl neg,dg ds] (encI (if neg then -(val ds : Int) else (val ds : Int))) := by
 unfold bl
 refine good_of_lwp mix Tryz.func95 rfl (by decide) (nt := 15) rfl (rs := [.cell 4 80]) rfl (nle rfl) ?_
 (repeat (first|apply zO (by decide +kernel)|apply zP (by decide +kernel)|(apply zS;(case h=>constructor<;>decide))|((first|apply l_go rfl|apply c_dec);(case hs=>(simp (disch := first|omega|exact kD rfl|exact kX rfl) only [smY,simprocAttr,bl,u32,u64,i64];exact rfl));first|refine c_bt ?_|refine c_bf ?_|refine zq ?_)))
 refine l_call rfl (by decide) rfl (by simp (disch := first|omega|exact kD rfl|exact kX rfl) only [smY,simprocAttr,bl,u32,u64,i64];exact rfl) (trimmed_good hok hlen) ?_
 (repeat (first|apply zO (by decide +kernel)|apply zP (by decide +kernel)|(apply zS;(case h=>constructor<;>decide))|((first|apply l_go rfl|apply c_dec);(case hs=>(simp (disch := first|omega|exact kD rfl|exact kX rfl) only [smY,simprocAttr,bl,u32,u64,i64];exact rfl));first|refine c_bt ?_|refine c_bf ?_|refine zq ?_)))
 have hl2 := length_trim_le hok
 cases neg with
 | false =>
   (repeat (first|apply zO (by decide +kernel)|apply zP (by decide +kernel)|(apply zS;(case h=>constructor<;>decide))|((first|apply l_go rfl|apply c_dec);(case hs=>(simp (disch := first|omega|exact kD rfl|exact kX rfl) only [smY,simprocAttr,bl,u32,u64,i64];exact rfl));first|refine c_bt ?_|refine c_bf ?_|refine zq ?_)))
   ((first|apply g_ret|apply g_end);case hres => (simp only [smR];simp (disch := first|omega|exact kD rfl|exact kX rfl) only [smY,simprocAttr,bl,u32,u64,i64];exact rfl))
   simp (disch := first|omega|exact kD rfl|exact kX rfl) only [smY,simprocAttr,bl,u32,u64,i64]
   simp [encI,bl,dg]
 | true =>
   (repeat (first|apply zO (by decide +kernel)|apply zP (by decide +kernel)|(apply zS;(case h=>constructor<;>decide))|((first|apply l_go rfl|apply c_dec);(case hs=>(simp (disch := first|omega|exact kD rfl|exact kX rfl) only [smY,simprocAttr,bl,u32,u64,i64];exact rfl));first|refine c_bt ?_|refine c_bf ?_|refine zq ?_)))
   ((first|apply g_ret|apply g_end);case hres => (simp only [smR];simp (disch := first|omega|exact kD rfl|exact kX rfl) only [smY,simprocAttr,bl,u32,u64,i64];exact rfl))
   simp (disch := first|omega|exact kD rfl|exact kX rfl) only [smY,simprocAttr,bl,u32,u64,i64]
   have e : (0 < (digs (val ds)).length) ↔ 0 < val ds := by
     rw [List.length_pos_iff,Ne,digs_eq_nil];omega
   simp [encI,bl,dg,e]
theorem sign_good (n : Int) (h : -9223372036854775808 ≤ n ∧ n ≤ 9223372036854775807) : PureGood Tryz.prog 174 [i64 n] (i64 (if n < 0 then -1 else if n = 0 then 0 else 1)) := by
 unfold i64
 refine good_of_lwp mix Tryz.func174 rfl (by decide) (nt := 9) rfl (rs := [.tmp 2]) rfl (nle rfl) ?_
 by_cases h1 : n < 0
 ·(repeat (first|apply zO (by decide +kernel)|apply zP (by decide +kernel)|(apply zS;(case h=>constructor<;>decide))|((first|apply l_go rfl|apply c_dec);(case hs=>(simp (disch := first|omega|exact kD rfl|exact kX rfl) only [smY,simprocAttr,bl,u32,u64,i64];exact rfl));first|refine c_bt ?_|refine c_bf ?_|refine zq ?_)))
  ((first|apply g_ret|apply g_end);case hres => (simp only [smR];simp (disch := first|omega|exact kD rfl|exact kX rfl) only [smY,simprocAttr,bl,u32,u64,i64];exact rfl))
  simp (disch := first|omega|exact kD rfl|exact kX rfl) only [smY,simprocAttr,bl,u32,u64,i64]
  try simp [h1]
 ·by_cases h2 : n = 0
  ·subst h2
   (repeat (first|apply zO (by decide +kernel)|apply zP (by decide +kernel)|(apply zS;(case h=>constructor<;>decide))|((first|apply l_go rfl|apply c_dec);(case hs=>(simp (disch := first|omega|exact kD rfl|exact kX rfl) only [smY,simprocAttr,bl,u32,u64,i64];exact rfl));first|refine c_bt ?_|refine c_bf ?_|refine zq ?_)))
   ((first|apply g_ret|apply g_end);case hres => (simp only [smR];simp (disch := first|omega|exact kD rfl|exact kX rfl) only [smY,simprocAttr,bl,u32,u64,i64];exact rfl))
   simp (disch := first|omega|exact kD rfl|exact kX rfl) only [smY,simprocAttr,bl,u32,u64,i64]
   try simp
  ·(repeat (first|apply zO (by decide +kernel)|apply zP (by decide +kernel)|(apply zS;(case h=>constructor<;>decide))|((first|apply l_go rfl|apply c_dec);(case hs=>(simp (disch := first|omega|exact kD rfl|exact kX rfl) only [smY,simprocAttr,bl,u32,u64,i64];exact rfl));first|refine c_bt ?_|refine c_bf ?_|refine zq ?_)))
   ((first|apply g_ret|apply g_end);case hres => (simp only [smR];simp (disch := first|omega|exact kD rfl|exact kX rfl) only [smY,simprocAttr,bl,u32,u64,i64];exact rfl))
   simp (disch := first|omega|exact kD rfl|exact kX rfl) only [smY,simprocAttr,bl,u32,u64,i64]
   simp [h1,h2]
theorem wide_good (n : Nat) (h : n < 18446744073709551616) : PureGood Tryz.prog 96 [u64 n] (dg (digs n)) := by
 unfold u64
 refine good_of_lwp mix Tryz.func96 rfl (by decide) (nt := 18) rfl (rs := [.tmp 2]) rfl (nle rfl) ?_
 by_cases h1 : n = 0
 ·subst h1
  (repeat (first|apply zO (by decide +kernel)|apply zP (by decide +kernel)|(apply zS;(case h=>constructor<;>decide))|((first|apply l_go rfl|apply c_dec);(case hs=>(simp (disch := first|omega|exact kD rfl|exact kX rfl) only [smY,simprocAttr,bl,u32,u64,i64];exact rfl));first|refine c_bt ?_|refine c_bf ?_|refine zq ?_)))
  ((first|apply g_ret|apply g_end);case hres => (simp only [smR];simp (disch := first|omega|exact kD rfl|exact kX rfl) only [smY,simprocAttr,bl,u32,u64,i64];exact rfl))
  simp (disch := first|omega|exact kD rfl|exact kX rfl) only [smY,simprocAttr,bl,u32,u64,i64]
  rw [digs_zero];rfl
 ·by_cases h2 : n < 4294967296
  ·(repeat (first|apply zO (by decide +kernel)|apply zP (by decide +kernel)|(apply zS;(case h=>constructor<;>decide))|((first|apply l_go rfl|apply c_dec);(case hs=>(simp (disch := first|omega|exact kD rfl|exact kX rfl) only [smY,simprocAttr,bl,u32,u64,i64];exact rfl));first|refine c_bt ?_|refine c_bf ?_|refine zq ?_)))
   ((first|apply g_ret|apply g_end);case hres => (simp only [smR];simp (disch := first|omega|exact kD rfl|exact kX rfl) only [smY,simprocAttr,bl,u32,u64,i64];exact rfl))
   simp (disch := first|omega|exact kD rfl|exact kX rfl) only [smY,simprocAttr,bl,u32,u64,i64]
   rw [digs_small h1 h2];rfl
  ·(repeat (first|apply zO (by decide +kernel)|apply zP (by decide +kernel)|(apply zS;(case h=>constructor<;>decide))|((first|apply l_go rfl|apply c_dec);(case hs=>(simp (disch := first|omega|exact kD rfl|exact kX rfl) only [smY,simprocAttr,bl,u32,u64,i64];exact rfl));first|refine c_bt ?_|refine c_bf ?_|refine zq ?_)))
   ((first|apply g_ret|apply g_end);case hres => (simp only [smR];simp (disch := first|omega|exact kD rfl|exact kX rfl) only [smY,simprocAttr,bl,u32,u64,i64];exact rfl))
   simp (disch := first|omega|exact kD rfl|exact kX rfl) only [smY,simprocAttr,bl,u32,u64,i64]
   rw [digs_pos h1,digs_small (by omega) (by omega)]
   simp [dg,dgs,wrap_u32_mod]
end Go.Proofs.YtlbckpljefadpaaGreat
namespace Go.Proofs.YtlbckpljefadpaaGreat
open Go Go.Lg Go.Num
set_option maxRecDepth 100000
attribute [local irreducible] Go.Lg.lrun Go.Lg.lwp Go.Lg.exThen Go.Lg.exBlk Go.Lg.keep Go.Lg.goodPost
theorem word_good {ds : List Nat} (hok : OkD ds) (hl : ds.length ≤ 2) : PureGood Tryz.prog 176 [dg ds] (u64 (val ds)) := by
 unfold u64
 match ds,hl with
 | [],_ =>
   refine good_of_lwp mix Tryz.func176 rfl (by decide) (nt := 23) rfl (rs := [.tmp 2]) rfl (nle rfl) ?_
   (repeat (first|apply zO (by decide +kernel)|apply zP (by decide +kernel)|(apply zS;(case h=>constructor<;>decide))|((first|apply l_go rfl|apply c_dec);(case hs=>(simp (disch := first|omega|exact kD rfl|exact kX rfl) only [smY,simprocAttr,bl,u32,u64,i64];exact rfl));first|refine c_bt ?_|refine c_bf ?_|refine zq ?_)))
   ((first|apply g_ret|apply g_end);case hres => (simp only [smR];simp (disch := first|omega|exact kD rfl|exact kX rfl) only [smY,simprocAttr,bl,u32,u64,i64];exact rfl))
   simp (disch := first|omega|exact kD rfl|exact kX rfl) only [smY,simprocAttr,bl,u32,u64,i64]
   rfl
 | [a],_ =>
   have ha := hok.head
   refine good_of_lwp mix Tryz.func176 rfl (by decide) (nt := 23) rfl (rs := [.tmp 2]) rfl (nle rfl) ?_
   (repeat (first|apply zO (by decide +kernel)|apply zP (by decide +kernel)|(apply zS;(case h=>constructor<;>decide))|((first|apply l_go rfl|apply c_dec);(case hs=>(simp (disch := first|omega|exact kD rfl|exact kX rfl) only [smY,simprocAttr,bl,u32,u64,i64];exact rfl));first|refine c_bt ?_|refine c_bf ?_|refine zq ?_)))
   ((first|apply g_ret|apply g_end);case hres => (simp only [smR];simp (disch := first|omega|exact kD rfl|exact kX rfl) only [smY,simprocAttr,bl,u32,u64,i64];exact rfl))
   simp [pv,dgs,wrap_u64_mod,val]
 | [a,b],_ =>
   have ha := hok.head
   have hb := hok.tail.head
   refine good_of_lwp mix Tryz.func176 rfl (by decide) (nt := 23) rfl (rs := [.tmp 2]) rfl (nle rfl) ?_
   simp only [dg,dgs_cons,dgs_nil,List.length_cons,List.length_nil,Nat.reduceAdd]
   (repeat (first|apply zO (by decide +kernel)|apply zP (by decide +kernel)|(apply zS;(case h=>constructor<;>decide))|((first|apply l_go rfl|apply c_dec);(case hs=>(simp (disch := first|omega|exact kD rfl|exact kX rfl) only [smY,simprocAttr,bl,u32,u64,i64];exact rfl));first|refine c_bt ?_|refine c_bf ?_|refine zq ?_)))
   ((first|apply g_ret|apply g_end);case hres => (simp only [smR];simp (disch := first|omega|exact kD rfl|exact kX rfl) only [smY,simprocAttr,bl,u32,u64,i64];exact rfl))
   simp (disch := first|omega|exact kD rfl|exact kX rfl) only [smY,simprocAttr,bl,u32,u64,i64]
   simp [val]
   omega
theorem clone_nil (P : List LV) (hP : P = [.lit (.slice none 0 0)]) : PureGood Tryz.prog 113 P (dg []) := by
 subst hP
 refine good_of_lwp mix Tryz.func113 rfl (by decide) (nt := 8) rfl (rs := [.tmp 2]) rfl (nle rfl) ?_
 (repeat (first|apply zO (by decide +kernel)|apply zP (by decide +kernel)|(apply zS;(case h=>constructor<;>decide))|((first|apply l_go rfl|apply c_dec);(case hs=>(simp (disch := first|omega|exact kD rfl|exact kX rfl) only [smY,simprocAttr,bl,u32,u64,i64];exact rfl));first|refine c_bt ?_|refine c_bf ?_|refine zq ?_)))
 ((first|apply g_ret|apply g_end);case hres => (simp only [smR];simp (disch := first|omega|exact kD rfl|exact kX rfl) only [smY,simprocAttr,bl,u32,u64,i64];exact rfl))
 simp (disch := first|omega|exact kD rfl|exact kX rfl) only [smY,simprocAttr,bl,u32,u64,i64]
 rfl
theorem clone_empty (a : Addr) (c : Nat) : PureGood Tryz.prog 113 [.lit (.slice (some a) 0 c)] (dg []) := by
 refine good_of_lwp mix Tryz.func113 rfl (by decide) (nt := 8) rfl (rs := [.tmp 2]) rfl (nle rfl) ?_
 (repeat (first|apply zO (by decide +kernel)|apply zP (by decide +kernel)|(apply zS;(case h=>constructor<;>decide))|((first|apply l_go rfl|apply c_dec);(case hs=>(simp (disch := first|omega|exact kD rfl|exact kX rfl) only [smY,simprocAttr,bl,u32,u64,i64];exact rfl));first|refine c_bt ?_|refine c_bf ?_|refine zq ?_)))
 ((first|apply g_ret|apply g_end);case hres => (simp only [smR];simp (disch := first|omega|exact kD rfl|exact kX rfl) only [smY,simprocAttr,bl,u32,u64,i64];exact rfl))
 simp (disch := first|omega|exact kD rfl|exact kX rfl) only [smY,simprocAttr,bl,u32,u64,i64]
 rfl
theorem clone_good (ds : List Nat) (hl : ds.length ≤ 1099511627776) : PureGood Tryz.prog 113 [dg ds] (dg ds) := by
 match ds,hl with
 | [],_ => exact good_empty (clone_nil _ rfl) clone_empty
 | d :: ds,hl =>
   have h2 : (d :: ds).length = ds.length + 1 := rfl
   generalize d :: ds = es at *
   have h3 : 0 < es.length := by omega
   refine good_of_lwp mix Tryz.func113 rfl (by decide) (nt := 8) rfl (rs := [.tmp 2]) rfl (nle rfl) ?_
   (repeat (first|apply zO (by decide +kernel)|apply zP (by decide +kernel)|(apply zS;(case h=>constructor<;>decide))|((first|apply l_go rfl|apply c_dec);(case hs=>(simp (disch := first|omega|exact kD rfl|exact kX rfl) only [smY,simprocAttr,bl,u32,u64,i64];exact rfl));first|refine c_bt ?_|refine c_bf ?_|refine zq ?_)))
   ((first|apply g_ret|apply g_end);case hres => (simp only [smR];simp (disch := first|omega|exact kD rfl|exact kX rfl) only [smY,simprocAttr,bl,u32,u64,i64];exact rfl))
   simp (disch := first|omega|exact kD rfl|exact kX rfl) only [smY,simprocAttr,bl,u32,u64,i64]
   simp
theorem of_good (n : Int) (h : -9223372036854775808 ≤ n ∧ n ≤ 9223372036854775807) : PureGood Tryz.prog 66 [i64 n] (encI n) := by
 unfold i64
 refine good_of_lwp mix Tryz.func66 rfl (by decide) (nt := 14) rfl (rs := [.cell 2 80]) rfl (nle rfl) ?_
 have hl : (digs n.natAbs).length ≤ 2 := length_digs_le (k := 2) (by omega)
 by_cases h1 : n < 0
 ·have e1 : (18446744073709551616 - n % 18446744073709551616) = (n.natAbs : Int) := by omega
  have e2 : (0 - n % 18446744073709551616) % 18446744073709551616 = (n.natAbs : Int) := by omega
  (repeat (first|apply zO (by decide +kernel)|apply zP (by decide +kernel)|(apply zS;(case h=>constructor<;>decide))|((first|apply l_go rfl|apply c_dec);(case hs=>(simp (disch := first|omega|exact kD rfl|exact kX rfl) only [smY,simprocAttr,bl,u32,u64,i64];exact rfl));first|refine c_bt ?_|refine c_bf ?_|refine zq ?_)))
  simp only [wrap_u64_mod,e2]
  refine l_call rfl (by decide) rfl (by simp (disch := first|omega|exact kD rfl|exact kX rfl) only [smY,simprocAttr,bl,u32,u64,i64];exact rfl) (wide_good n.natAbs (by omega)) ?_
  simp only [↓reduceIte,List.nil_eq,reduceCtorEq]
  refine l_call rfl (by decide) rfl (by simp (disch := first|omega|exact kD rfl|exact kX rfl) only [smY,simprocAttr,bl,u32,u64,i64];exact rfl) (signed_good (neg := true) (digs_ok n.natAbs) (by omega)) ?_
  simp only [if_true]
  rw [val_digs,show -((n.natAbs : Nat) : Int) = n by omega]
  simp only [encI]
  (repeat (first|apply zO (by decide +kernel)|apply zP (by decide +kernel)|(apply zS;(case h=>constructor<;>decide))|((first|apply l_go rfl|apply c_dec);(case hs=>(simp (disch := first|omega|exact kD rfl|exact kX rfl) only [smY,simprocAttr,bl,u32,u64,i64];exact rfl));first|refine c_bt ?_|refine c_bf ?_|refine zq ?_)))
  ((first|apply g_ret|apply g_end);case hres => (simp only [smR];simp (disch := first|omega|exact kD rfl|exact kX rfl) only [smY,simprocAttr,bl,u32,u64,i64];exact rfl))
  simp (disch := first|omega|exact kD rfl|exact kX rfl) only [smY,simprocAttr,bl,u32,u64,i64]
 ·obtain ⟨k,rfl⟩ := Int.eq_ofNat_of_zero_le (by omega : 0 ≤ n)
  rw [Int.natAbs_natCast] at hl
  (repeat (first|apply zO (by decide +kernel)|apply zP (by decide +kernel)|(apply zS;(case h=>constructor<;>decide))|((first|apply l_go rfl|apply c_dec);(case hs=>(simp (disch := first|omega|exact kD rfl|exact kX rfl) only [smY,simprocAttr,bl,u32,u64,i64];exact rfl));first|refine c_bt ?_|refine c_bf ?_|refine zq ?_)))
  refine l_call rfl (by decide) rfl (by simp (disch := first|omega|exact kD rfl|exact kX rfl) only [smY,simprocAttr,bl,u32,u64,i64];exact rfl) (wide_good k (by omega)) ?_
  refine l_call rfl (by decide) rfl (by simp (disch := first|omega|exact kD rfl|exact kX rfl) only [smY,simprocAttr,bl,u32,u64,i64];exact rfl) (signed_good (neg := false) (digs_ok k) (by omega)) ?_
  simp only [if_true,Bool.false_eq_true,if_false]
  rw [val_digs]
  simp only [encI]
  (repeat (first|apply zO (by decide +kernel)|apply zP (by decide +kernel)|(apply zS;(case h=>constructor<;>decide))|((first|apply l_go rfl|apply c_dec);(case hs=>(simp (disch := first|omega|exact kD rfl|exact kX rfl) only [smY,simprocAttr,bl,u32,u64,i64];exact rfl));first|refine c_bt ?_|refine c_bf ?_|refine zq ?_)))
  ((first|apply g_ret|apply g_end);case hres => (simp only [smR];simp (disch := first|omega|exact kD rfl|exact kX rfl) only [smY,simprocAttr,bl,u32,u64,i64];exact rfl))
  simp (disch := first|omega|exact kD rfl|exact kX rfl) only [smY,simprocAttr,bl,u32,u64,i64]
theorem sub32_good {x y c : Nat} (hx : x < 4294967296) (hy : y < 4294967296) (hc : c ≤ 1) :
  PureGood Tryz.prog 175 [u32 x,u32 y,u32 c] (.tup [u32 ((x + 8589934592 - y - c) % 4294967296),u32 (if x < y + c then 1 else 0)]) := by
 unfold u32
 refine good_of_lwp mix Tryz.func175 rfl (by decide) (nt := 25) rfl (rs := [.tmp 6,.tmp 7]) rfl (nle rfl) ?_
 (repeat (first|apply zO (by decide +kernel)|apply zP (by decide +kernel)|(apply zS;(case h=>constructor<;>decide))|((first|apply l_go rfl|apply c_dec);(case hs=>(simp (disch := first|omega|exact kD rfl|exact kX rfl) only [smY,simprocAttr,bl,u32,u64,i64];exact rfl));first|refine c_bt ?_|refine c_bf ?_|refine zq ?_)))
 ((first|apply g_ret|apply g_end);case hres => (simp only [smR];simp (disch := first|omega|exact kD rfl|exact kX rfl) only [smY,simprocAttr,bl,u32,u64,i64];exact rfl))
 simp (disch := first|omega|exact kD rfl|exact kX rfl) only [smY,simprocAttr,bl,u32,u64,i64]
 simp (disch := omega) only [xorI,andI,orI,wrap_u32,IntKind.bits,Option.some.injEq,LV.tup.injEq,LV.lit.injEq,Value.int.injEq,List.cons.injEq,true_and,and_true]
 exact ⟨sub_wrap hx hy hc,borrow_bit hx hy hc (sub_wrap hx hy hc)⟩
theorem compare_good {a b : List Nat} (ha : OkD a) (hb : OkD b) (hea : a = digs (val a)) (heb : b = digs (val b)) (la : a.length ≤ 1099511627776) (lb : b.length ≤ 1099511627776) :
  PureGood Tryz.prog 169 [dg a,dg b] (i64 (cmpN (val a) (val b))) := by
 unfold i64
 refine good_of_lwp mix Tryz.func169 rfl (by decide) (nt := 42) rfl (rs := [.tmp 4]) rfl (nle rfl) ?_
 by_cases hl : a.length = b.length
 ·(repeat (first|apply zO (by decide +kernel)|apply zP (by decide +kernel)|(apply zS;(case h=>constructor<;>decide))|((first|apply l_go rfl|apply c_dec);(case hs=>(simp (disch := first|omega|exact kD rfl|exact kX rfl) only [smY,simprocAttr,bl,u32,u64,i64];exact rfl));first|refine c_bt ?_|refine c_bf ?_|refine zq ?_)))
  refine w_loop (α := {k : Nat // k ≤ a.length ∧ a.drop k = b.drop k}) (fun k => st 42 (lk [(0,.sl a.length (dgs a)),(1,.sl b.length (dgs b)),(5,.lit (.int .i64 ((k.1 : Int) - 1)))]) (lkH []) 0) (fun k => k.1) ⟨a.length,Nat.le_refl _,by simp [hl]⟩ ?_ ?_
  ·(refine Sub.plain ?_;simp only [smF,dg,renL,renLs,simprocAttr,bl,u32,u64,i64])
  ·rintro ⟨k,hk,he⟩
   simp only [st]
   rcases k with _ | k
   ·(repeat (first|apply zO (by decide +kernel)|apply zP (by decide +kernel)|(apply zS;(case h=>constructor<;>decide))|((first|apply l_go rfl|apply c_dec);(case hs=>(simp (disch := first|omega|exact kD rfl|exact kX rfl) only [smY,simprocAttr,bl,u32,u64,i64];exact rfl));first|refine c_bt ?_|refine c_bf ?_|refine zq ?_)))
    ((first|apply g_ret|apply g_end);case hres => (simp only [smR];simp (disch := first|omega|exact kD rfl|exact kX rfl) only [smY,simprocAttr,bl,u32,u64,i64];exact rfl))
    simp (disch := first|omega|exact kD rfl|exact kX rfl) only [smY,simprocAttr,bl,u32,u64,i64]
    have : a = b := by simpa using he
    rw [this]
    simp [cmpN]
   ·have hkb : k < b.length := by omega
    by_cases h1 : a.getD k 0 = b.getD k 0
    ·(repeat (first|apply zO (by decide +kernel)|apply zP (by decide +kernel)|(apply zS;(case h=>constructor<;>decide))|((first|apply l_go rfl|apply c_dec);(case hs=>(simp (disch := first|omega|exact kD rfl|exact kX rfl) only [smY,simprocAttr,bl,u32,u64,i64];exact rfl));first|refine c_bt ?_|refine c_bf ?_|refine zq ?_)))
     refine ⟨⟨k,by omega,by rw [drop_cons (by omega),drop_cons hkb,he,h1]⟩,?_,Nat.lt_succ_self k⟩
     (refine Sub.plain ?_;simp only [smF,dg,renL,renLs,simprocAttr,bl,u32,u64,i64])
     (simp only [LV.lit.injEq,Value.int.injEq,true_and,and_true,dg,LV.sl.injEq];omega)
    ·by_cases h2 : a.getD k 0 < b.getD k 0
     ·(repeat (first|apply zO (by decide +kernel)|apply zP (by decide +kernel)|(apply zS;(case h=>constructor<;>decide))|((first|apply l_go rfl|apply c_dec);(case hs=>(simp (disch := first|omega|exact kD rfl|exact kX rfl) only [smY,simprocAttr,bl,u32,u64,i64];exact rfl));first|refine c_bt ?_|refine c_bf ?_|refine zq ?_)))
      ((first|apply g_ret|apply g_end);case hres => (simp only [smR];simp (disch := first|omega|exact kD rfl|exact kX rfl) only [smY,simprocAttr,bl,u32,u64,i64];exact rfl))
      simp (disch := first|omega|exact kD rfl|exact kX rfl) only [smY,simprocAttr,bl,u32,u64,i64]
      have := cmp_at ha hl (by omega) he h2
      simp [cmpN,this]
     ·(repeat (first|apply zO (by decide +kernel)|apply zP (by decide +kernel)|(apply zS;(case h=>constructor<;>decide))|((first|apply l_go rfl|apply c_dec);(case hs=>(simp (disch := first|omega|exact kD rfl|exact kX rfl) only [smY,simprocAttr,bl,u32,u64,i64];exact rfl));first|refine c_bt ?_|refine c_bf ?_|refine zq ?_)))
      ((first|apply g_ret|apply g_end);case hres => (simp only [smR];simp (disch := first|omega|exact kD rfl|exact kX rfl) only [smY,simprocAttr,bl,u32,u64,i64];exact rfl))
      simp (disch := first|omega|exact kD rfl|exact kX rfl) only [smY,simprocAttr,bl,u32,u64,i64]
      have := cmp_at hb hl.symm hkb he.symm (by omega)
      have h3 : ¬ val a < val b := by omega
      have h4 : ¬ val a = val b := by omega
      simp [cmpN,h3,h4]
 ·have hl1 : (a.length : Int) - b.length ≠ 0 := by omega
  (repeat (first|apply zO (by decide +kernel)|apply zP (by decide +kernel)|(apply zS;(case h=>constructor<;>decide))|((first|apply l_go rfl|apply c_dec);(case hs=>(simp (disch := first|omega|exact kD rfl|exact kX rfl) only [smY,simprocAttr,bl,u32,u64,i64];exact rfl));first|refine c_bt ?_|refine c_bf ?_|refine zq ?_)))
  refine l_call rfl (by decide) rfl (by simp (disch := first|omega|exact kD rfl|exact kX rfl) only [smY,simprocAttr,bl,u32,u64,i64];exact rfl) (sign_good _ (by omega)) ?_
  simp only [i64]
  (repeat (first|apply zO (by decide +kernel)|apply zP (by decide +kernel)|(apply zS;(case h=>constructor<;>decide))|((first|apply l_go rfl|apply c_dec);(case hs=>(simp (disch := first|omega|exact kD rfl|exact kX rfl) only [smY,simprocAttr,bl,u32,u64,i64];exact rfl));first|refine c_bt ?_|refine c_bf ?_|refine zq ?_)))
  ((first|apply g_ret|apply g_end);case hres => (simp only [smR];simp (disch := first|omega|exact kD rfl|exact kX rfl) only [smY,simprocAttr,bl,u32,u64,i64];exact rfl))
  simp (disch := first|omega|exact kD rfl|exact kX rfl) only [smY,simprocAttr,bl,u32,u64,i64]
  by_cases h2 : a.length < b.length
  ·have h3 : val a < val b := lt_of_length_lt (by rw [← hea,← heb];exact h2)
   have h4 : (a.length : Int) - b.length < 0 := by omega
   simp [cmpN,h3,h4]
  ·have h3 : val b < val a := lt_of_length_lt (by rw [← hea,← heb];omega)
   have h4 : ¬ (a.length : Int) - b.length < 0 := by omega
   have h5 : ¬ val a < val b := by omega
   have h6 : ¬ val a = val b := by omega
   simp only [cmpN,if_neg h4,if_neg hl1,if_neg h5,if_neg h6]
end Go.Proofs.YtlbckpljefadpaaGreat
namespace Go.Proofs.YtlbckpljefadpaaGreat
open Go Go.Lg Go.Num
set_option maxRecDepth 100000
attribute [local irreducible] Go.Lg.lrun Go.Lg.lwp Go.Lg.exThen Go.Lg.exBlk Go.Lg.keep Go.Lg.goodPost
theorem less_good {a b : List Nat} (ha : OkD a) (hb : OkD b) (hl : b.length ≤ a.length) (hv : val b ≤ val a) (la : a.length ≤ 1099511627776) :
  PureGood Tryz.prog 170 [dg a,dg b] (dg (padL a.length (val a - val b))) := by
 refine good_of_lwp mix Tryz.func170 rfl (by decide) (nt := 40) rfl (rs := [.tmp 4]) rfl (nle rfl) ?_
 (repeat (first|apply zO (by decide +kernel)|apply zP (by decide +kernel)|(apply zS;(case h=>constructor<;>decide))|((first|apply l_go rfl|apply c_dec);(case hs=>(simp (disch := first|omega|exact kD rfl|exact kX rfl) only [smY,simprocAttr,bl,u32,u64,i64];exact rfl));first|refine c_bt ?_|refine c_bf ?_|refine zq ?_)))
 refine w_loop (α := {p : Nat × List Nat × Nat // p.1 ≤ a.length ∧ p.2.1.length = a.length ∧ OkD p.2.1 ∧ p.2.2 ≤ 1 ∧ val (p.2.1.take p.1) + val (b.take p.1) = val (a.take p.1) + 4294967296 ^ p.1 * p.2.2})
  (fun p => st 40 (lk [(0,dg a),(1,dg b),(5,.own 0 0 a.length 1),(6,u32 p.1.2.2),(13,dg a),(14,i64 a.length),(15,i64 p.1.1)]) (lkH [(0,⟨135,dgs p.1.2.1,false⟩)]) 1) (fun p => a.length - p.1.1) ⟨(0,List.replicate a.length 0,0),by simp,by simp,OkD.replicate _,by simp,by simp [val]⟩ ?_ ?_
 ·(refine Sub.heap1 3 ?_ (by simp only [smF,dg,renL,renLs,simprocAttr,bl,u32,u64,i64];exact rfl) ?_ ?_;all_goals (first | exact dgs_plain _ | with_reducible rfl | (simp only [smF,dg,renL,renLs,simprocAttr,bl,u32,u64,i64];done) | (simp only [smF,dg,renL,renLs,simprocAttr,bl,u32,u64,i64]) | skip))
  exact zeros_dgs _
 ·rintro ⟨⟨k,r,c⟩,hk,hr,hor,hc,he⟩
  simp only at hk hr hc he hor
  simp only [st]
  have hx := ha.getD k
  have hy := hb.getD k
  by_cases h1 : k < a.length
  ·by_cases h2 : k < b.length
   ·(repeat (first|apply zO (by decide +kernel)|apply zP (by decide +kernel)|(apply zS;(case h=>constructor<;>decide))|((first|apply l_go rfl|apply c_dec);(case hs=>(simp (disch := first|omega|exact kD rfl|exact kX rfl) only [smY,simprocAttr,bl,u32,u64,i64];exact rfl));first|refine c_bt ?_|refine c_bf ?_|refine zq ?_)))
    refine l_call rfl (by decide) rfl (by simp (disch := first|omega|exact kD rfl|exact kX rfl) only [smY,simprocAttr,bl,u32,u64,i64];exact rfl) (sub32_good hx hy hc) ?_
    simp only [u32]
    (repeat (first|apply zO (by decide +kernel)|apply zP (by decide +kernel)|(apply zS;(case h=>constructor<;>decide))|((first|apply l_go rfl|apply c_dec);(case hs=>(simp (disch := first|omega|exact kD rfl|exact kX rfl) only [smY,simprocAttr,bl,u32,u64,i64];exact rfl));first|refine c_bt ?_|refine c_bf ?_|refine zq ?_)))
    refine ⟨⟨(k + 1,r.set k ((a.getD k 0 + 8589934592 - b.getD k 0 - c) % 4294967296),if a.getD k 0 < b.getD k 0 + c then 1 else 0),by simp only;omega,by simp [hr],hor.set (by omega),by simp only;split <;> omega,?_⟩,?_,by simp only;omega⟩
    ·simp only
     rw [val_set_next (by omega),val_take_next,val_take_next,Nat.pow_succ]
     exact sub_next he (by split <;> omega)
    ·(refine Sub.heap1 0 ?_ (by simp only [smF,dg,renL,renLs,simprocAttr,bl,u32,u64,i64];exact rfl) ?_ ?_;all_goals (first | exact dgs_plain _ | with_reducible rfl | (simp only [smF,dg,renL,renLs,simprocAttr,bl,u32,u64,i64];done) | (simp only [smF,dg,renL,renLs,simprocAttr,bl,u32,u64,i64]) | skip))
   ·have hy0 : b.getD k 0 = 0 := by simp [List.getD,Nat.le_of_not_lt h2]
    (repeat (first|apply zO (by decide +kernel)|apply zP (by decide +kernel)|(apply zS;(case h=>constructor<;>decide))|((first|apply l_go rfl|apply c_dec);(case hs=>(simp (disch := first|omega|exact kD rfl|exact kX rfl) only [smY,simprocAttr,bl,u32,u64,i64];exact rfl));first|refine c_bt ?_|refine c_bf ?_|refine zq ?_)))
    refine l_call rfl (by decide) rfl (by simp (disch := first|omega|exact kD rfl|exact kX rfl) only [smY,simprocAttr,bl,u32,u64,i64];exact rfl) (sub32_good (y := 0) hx (by omega) hc) ?_
    simp only [u32]
    (repeat (first|apply zO (by decide +kernel)|apply zP (by decide +kernel)|(apply zS;(case h=>constructor<;>decide))|((first|apply l_go rfl|apply c_dec);(case hs=>(simp (disch := first|omega|exact kD rfl|exact kX rfl) only [smY,simprocAttr,bl,u32,u64,i64];exact rfl));first|refine c_bt ?_|refine c_bf ?_|refine zq ?_)))
    refine ⟨⟨(k + 1,r.set k ((a.getD k 0 + 8589934592 - 0 - c) % 4294967296),if a.getD k 0 < 0 + c then 1 else 0),by simp only;omega,by simp [hr],hor.set (by omega),by simp only;split <;> omega,?_⟩,?_,by simp only;omega⟩
    ·simp only
     rw [val_set_next (by omega),val_take_next,val_take_next,Nat.pow_succ,hy0]
     exact sub_next he (by split <;> omega)
    ·(refine Sub.heap1 0 ?_ (by simp only [smF,dg,renL,renLs,simprocAttr,bl,u32,u64,i64];exact rfl) ?_ ?_;all_goals (first | exact dgs_plain _ | with_reducible rfl | (simp only [smF,dg,renL,renLs,simprocAttr,bl,u32,u64,i64];done) | (simp only [smF,dg,renL,renLs,simprocAttr,bl,u32,u64,i64]) | skip))
     all_goals simp
  ·(repeat (first|apply zO (by decide +kernel)|apply zP (by decide +kernel)|(apply zS;(case h=>constructor<;>decide))|((first|apply l_go rfl|apply c_dec);(case hs=>(simp (disch := first|omega|exact kD rfl|exact kX rfl) only [smY,simprocAttr,bl,u32,u64,i64];exact rfl));first|refine c_bt ?_|refine c_bf ?_|refine zq ?_)))
   ((first|apply g_ret|apply g_end);case hres => (simp only [smR];simp (disch := first|omega|exact kD rfl|exact kX rfl) only [smY,simprocAttr,bl,u32,u64,i64];exact rfl))
   simp (disch := first|omega|exact kD rfl|exact kX rfl) only [smY,simprocAttr,bl,u32,u64,i64]
   have hka : k = a.length := by omega
   subst hka
   rw [List.take_of_length_le (Nat.le_of_eq hr)] at he ⊢
   rw [List.take_of_length_le hl,List.take_of_length_le (Nat.le_refl _)] at he
   have hvr := val_lt hor
   rw [hr] at hvr
   have hc0 : c = 0 := by
    rcases Nat.eq_zero_or_pos c with h | h
    ·exact h
    ·have : c = 1 := by omega
     subst this
     omega
   subst hc0
   rw [← eq_padL hor hr (show val r = val a - val b by omega)]
   simp [hr]
def plusL (a b : List Nat) : List Nat := padL (max a.length b.length + 1) (val a + val b)
theorem plus_good {a b : List Nat} (ha : OkD a) (hb : OkD b) (la : a.length ≤ 1099511627776) (lb : b.length ≤ 1099511627776) :
  PureGood Tryz.prog 168 [dg a,dg b] (dg (plusL a b)) := by
 refine good_of_lwp mix Tryz.func168 rfl (by decide) (nt := 53) rfl (rs := [.tmp 4]) rfl (nle rfl) ?_
 by_cases hab : a.length < b.length
 ·have hle := Nat.le_of_lt hab
  rw [plusL,Nat.max_eq_right hle,Nat.add_comm (val a)]
  (repeat (first|apply zO (by decide +kernel)|apply zP (by decide +kernel)|(apply zS;(case h=>constructor<;>decide))|((first|apply l_go rfl|apply c_dec);(case hs=>(simp (disch := first|omega|exact kD rfl|exact kX rfl) only [smY,simprocAttr,bl,u32,u64,i64];exact rfl));first|refine c_bt ?_|refine c_bf ?_|refine zq ?_)))
  refine w_loop (α := {p : Nat × List Nat × Nat // p.1 ≤ b.length ∧ p.2.1.length = b.length + 1 ∧ OkD p.2.1 ∧ p.2.2 ≤ 1 ∧ val (p.2.1.take p.1) + 4294967296 ^ p.1 * p.2.2 = val (b.take p.1) + val (a.take p.1)})
   (fun p => st 53 (lk [(0,dg b),(1,dg a),(5,.own 0 0 (b.length + 1) 1),(6,u32 p.1.2.2),(21,dg b),(22,i64 b.length),(23,i64 p.1.1)]) (lkH [(0,⟨135,dgs p.1.2.1,false⟩)]) 1) (fun p => b.length - p.1.1) ⟨(0,List.replicate (b.length + 1) 0,0),by simp,by simp,OkD.replicate _,by simp,by simp [val]⟩ ?_ ?_
  ·(refine Sub.heap1 13 ?_ (by simp only [smF,dg,renL,renLs,simprocAttr,bl,u32,u64,i64];exact rfl) ?_ ?_;all_goals (first | exact dgs_plain _ | with_reducible rfl | (simp only [smF,dg,renL,renLs,simprocAttr,bl,u32,u64,i64];done) | (simp only [smF,dg,renL,renLs,simprocAttr,bl,u32,u64,i64]) | skip))
   exact zeros_dgs _
  ·rintro ⟨⟨k,r,c⟩,hk,hr,hor,hc,he⟩
   simp only at hk hr hc he hor
   simp only [st]
   have hx := hb.getD k
   have hy := ha.getD k
   by_cases h1 : k < b.length
   ·by_cases h2 : k < a.length
    ·(repeat (first|apply zO (by decide +kernel)|apply zP (by decide +kernel)|(apply zS;(case h=>constructor<;>decide))|((first|apply l_go rfl|apply c_dec);(case hs=>(simp (disch := first|omega|exact kD rfl|exact kX rfl) only [smY,simprocAttr,bl,u32,u64,i64];exact rfl));first|refine c_bt ?_|refine c_bf ?_|refine zq ?_)))
     refine l_call rfl (by decide) rfl (by simp (disch := first|omega|exact kD rfl|exact kX rfl) only [smY,simprocAttr,bl,u32,u64,i64];exact rfl) (add32_good hx hy (by omega)) ?_
     simp only [u32]
     (repeat (first|apply zO (by decide +kernel)|apply zP (by decide +kernel)|(apply zS;(case h=>constructor<;>decide))|((first|apply l_go rfl|apply c_dec);(case hs=>(simp (disch := first|omega|exact kD rfl|exact kX rfl) only [smY,simprocAttr,bl,u32,u64,i64];exact rfl));first|refine c_bt ?_|refine c_bf ?_|refine zq ?_)))
     refine ⟨⟨(k + 1,r.set k ((b.getD k 0 + a.getD k 0 + c) % 4294967296),(b.getD k 0 + a.getD k 0 + c) / 4294967296),by simp only;omega,by simp [hr],hor.set (by omega),by simp only;omega,?_⟩,?_,by simp only;omega⟩
     ·simp only
      rw [val_set_next (by omega),val_take_next,val_take_next,Nat.pow_succ]
      exact add_next he rfl
     ·(refine Sub.heap1 0 ?_ (by simp only [smF,dg,renL,renLs,simprocAttr,bl,u32,u64,i64];exact rfl) ?_ ?_;all_goals (first | exact dgs_plain _ | with_reducible rfl | (simp only [smF,dg,renL,renLs,simprocAttr,bl,u32,u64,i64];done) | (simp only [smF,dg,renL,renLs,simprocAttr,bl,u32,u64,i64]) | skip))
    ·have hy0 : a.getD k 0 = 0 := by simp [List.getD,Nat.le_of_not_lt h2]
     (repeat (first|apply zO (by decide +kernel)|apply zP (by decide +kernel)|(apply zS;(case h=>constructor<;>decide))|((first|apply l_go rfl|apply c_dec);(case hs=>(simp (disch := first|omega|exact kD rfl|exact kX rfl) only [smY,simprocAttr,bl,u32,u64,i64];exact rfl));first|refine c_bt ?_|refine c_bf ?_|refine zq ?_)))
     refine l_call rfl (by decide) rfl (by simp (disch := first|omega|exact kD rfl|exact kX rfl) only [smY,simprocAttr,bl,u32,u64,i64];exact rfl) (add32_good (y := 0) hx (by omega) (by omega)) ?_
     simp only [u32]
     (repeat (first|apply zO (by decide +kernel)|apply zP (by decide +kernel)|(apply zS;(case h=>constructor<;>decide))|((first|apply l_go rfl|apply c_dec);(case hs=>(simp (disch := first|omega|exact kD rfl|exact kX rfl) only [smY,simprocAttr,bl,u32,u64,i64];exact rfl));first|refine c_bt ?_|refine c_bf ?_|refine zq ?_)))
     refine ⟨⟨(k + 1,r.set k ((b.getD k 0 + 0 + c) % 4294967296),(b.getD k 0 + 0 + c) / 4294967296),by simp only;omega,by simp [hr],hor.set (by omega),by simp only;omega,?_⟩,?_,by simp only;omega⟩
     ·simp only
      rw [val_set_next (by omega),val_take_next,val_take_next,Nat.pow_succ,hy0]
      exact add_next he rfl
     ·(refine Sub.heap1 0 ?_ (by simp only [smF,dg,renL,renLs,simprocAttr,bl,u32,u64,i64];exact rfl) ?_ ?_;all_goals (first | exact dgs_plain _ | with_reducible rfl | (simp only [smF,dg,renL,renLs,simprocAttr,bl,u32,u64,i64];done) | (simp only [smF,dg,renL,renLs,simprocAttr,bl,u32,u64,i64]) | skip))
      all_goals simp
   ·have hka : k = b.length := by omega
    subst hka
    (repeat (first|apply zO (by decide +kernel)|apply zP (by decide +kernel)|(apply zS;(case h=>constructor<;>decide))|((first|apply l_go rfl|apply c_dec);(case hs=>(simp (disch := first|omega|exact kD rfl|exact kX rfl) only [smY,simprocAttr,bl,u32,u64,i64];exact rfl));first|refine c_bt ?_|refine c_bf ?_|refine zq ?_)))
    ((first|apply g_ret|apply g_end);case hres => (simp only [smR];simp (disch := first|omega|exact kD rfl|exact kX rfl) only [smY,simprocAttr,bl,u32,u64,i64];exact rfl))
    simp (disch := first|omega|exact kD rfl|exact kX rfl) only [smY,simprocAttr,bl,u32,u64,i64]
    have h4 : val ((r.set b.length c).take (b.length + 1)) = val b + val a := by
     rw [val_set_next (by omega),he,List.take_of_length_le (Nat.le_refl _),List.take_of_length_le hle]
    rw [List.take_of_length_le (by simp [hr])] at h4
    rw [List.take_of_length_le (by simp [hr])]
    rw [eq_padL (k := b.length + 1) (hor.set (k := b.length) (d := c) (by omega)) (by simp [hr]) h4]
    simp [padL_length]
 ·have hle := Nat.le_of_not_lt hab
  rw [plusL,Nat.max_eq_left hle]
  (repeat (first|apply zO (by decide +kernel)|apply zP (by decide +kernel)|(apply zS;(case h=>constructor<;>decide))|((first|apply l_go rfl|apply c_dec);(case hs=>(simp (disch := first|omega|exact kD rfl|exact kX rfl) only [smY,simprocAttr,bl,u32,u64,i64];exact rfl));first|refine c_bt ?_|refine c_bf ?_|refine zq ?_)))
  refine w_loop (α := {p : Nat × List Nat × Nat // p.1 ≤ a.length ∧ p.2.1.length = a.length + 1 ∧ OkD p.2.1 ∧ p.2.2 ≤ 1 ∧ val (p.2.1.take p.1) + 4294967296 ^ p.1 * p.2.2 = val (a.take p.1) + val (b.take p.1)})
   (fun p => st 53 (lk [(0,dg a),(1,dg b),(5,.own 0 0 (a.length + 1) 1),(6,u32 p.1.2.2),(21,dg a),(22,i64 a.length),(23,i64 p.1.1)]) (lkH [(0,⟨135,dgs p.1.2.1,false⟩)]) 1) (fun p => a.length - p.1.1) ⟨(0,List.replicate (a.length + 1) 0,0),by simp,by simp,OkD.replicate _,by simp,by simp [val]⟩ ?_ ?_
  ·(refine Sub.heap1 9 ?_ (by simp only [smF,dg,renL,renLs,simprocAttr,bl,u32,u64,i64];exact rfl) ?_ ?_;all_goals (first | exact dgs_plain _ | with_reducible rfl | (simp only [smF,dg,renL,renLs,simprocAttr,bl,u32,u64,i64];done) | (simp only [smF,dg,renL,renLs,simprocAttr,bl,u32,u64,i64]) | skip))
   exact zeros_dgs _
  ·rintro ⟨⟨k,r,c⟩,hk,hr,hor,hc,he⟩
   simp only at hk hr hc he hor
   simp only [st]
   have hx := ha.getD k
   have hy := hb.getD k
   by_cases h1 : k < a.length
   ·by_cases h2 : k < b.length
    ·(repeat (first|apply zO (by decide +kernel)|apply zP (by decide +kernel)|(apply zS;(case h=>constructor<;>decide))|((first|apply l_go rfl|apply c_dec);(case hs=>(simp (disch := first|omega|exact kD rfl|exact kX rfl) only [smY,simprocAttr,bl,u32,u64,i64];exact rfl));first|refine c_bt ?_|refine c_bf ?_|refine zq ?_)))
     refine l_call rfl (by decide) rfl (by simp (disch := first|omega|exact kD rfl|exact kX rfl) only [smY,simprocAttr,bl,u32,u64,i64];exact rfl) (add32_good hx hy (by omega)) ?_
     simp only [u32]
     (repeat (first|apply zO (by decide +kernel)|apply zP (by decide +kernel)|(apply zS;(case h=>constructor<;>decide))|((first|apply l_go rfl|apply c_dec);(case hs=>(simp (disch := first|omega|exact kD rfl|exact kX rfl) only [smY,simprocAttr,bl,u32,u64,i64];exact rfl));first|refine c_bt ?_|refine c_bf ?_|refine zq ?_)))
     refine ⟨⟨(k + 1,r.set k ((a.getD k 0 + b.getD k 0 + c) % 4294967296),(a.getD k 0 + b.getD k 0 + c) / 4294967296),by simp only;omega,by simp [hr],hor.set (by omega),by simp only;omega,?_⟩,?_,by simp only;omega⟩
     ·simp only
      rw [val_set_next (by omega),val_take_next,val_take_next,Nat.pow_succ]
      exact add_next he rfl
     ·(refine Sub.heap1 0 ?_ (by simp only [smF,dg,renL,renLs,simprocAttr,bl,u32,u64,i64];exact rfl) ?_ ?_;all_goals (first | exact dgs_plain _ | with_reducible rfl | (simp only [smF,dg,renL,renLs,simprocAttr,bl,u32,u64,i64];done) | (simp only [smF,dg,renL,renLs,simprocAttr,bl,u32,u64,i64]) | skip))
    ·have hy0 : b.getD k 0 = 0 := by simp [List.getD,Nat.le_of_not_lt h2]
     (repeat (first|apply zO (by decide +kernel)|apply zP (by decide +kernel)|(apply zS;(case h=>constructor<;>decide))|((first|apply l_go rfl|apply c_dec);(case hs=>(simp (disch := first|omega|exact kD rfl|exact kX rfl) only [smY,simprocAttr,bl,u32,u64,i64];exact rfl));first|refine c_bt ?_|refine c_bf ?_|refine zq ?_)))
     refine l_call rfl (by decide) rfl (by simp (disch := first|omega|exact kD rfl|exact kX rfl) only [smY,simprocAttr,bl,u32,u64,i64];exact rfl) (add32_good (y := 0) hx (by omega) (by omega)) ?_
     simp only [u32]
     (repeat (first|apply zO (by decide +kernel)|apply zP (by decide +kernel)|(apply zS;(case h=>constructor<;>decide))|((first|apply l_go rfl|apply c_dec);(case hs=>(simp (disch := first|omega|exact kD rfl|exact kX rfl) only [smY,simprocAttr,bl,u32,u64,i64];exact rfl));first|refine c_bt ?_|refine c_bf ?_|refine zq ?_)))
     refine ⟨⟨(k + 1,r.set k ((a.getD k 0 + 0 + c) % 4294967296),(a.getD k 0 + 0 + c) / 4294967296),by simp only;omega,by simp [hr],hor.set (by omega),by simp only;omega,?_⟩,?_,by simp only;omega⟩
     ·simp only
      rw [val_set_next (by omega),val_take_next,val_take_next,Nat.pow_succ,hy0]
      exact add_next he rfl
     ·(refine Sub.heap1 0 ?_ (by simp only [smF,dg,renL,renLs,simprocAttr,bl,u32,u64,i64];exact rfl) ?_ ?_;all_goals (first | exact dgs_plain _ | with_reducible rfl | (simp only [smF,dg,renL,renLs,simprocAttr,bl,u32,u64,i64];done) | (simp only [smF,dg,renL,renLs,simprocAttr,bl,u32,u64,i64]) | skip))
      all_goals simp
   ·have hka : k = a.length := by omega
    subst hka
    (repeat (first|apply zO (by decide +kernel)|apply zP (by decide +kernel)|(apply zS;(case h=>constructor<;>decide))|((first|apply l_go rfl|apply c_dec);(case hs=>(simp (disch := first|omega|exact kD rfl|exact kX rfl) only [smY,simprocAttr,bl,u32,u64,i64];exact rfl));first|refine c_bt ?_|refine c_bf ?_|refine zq ?_)))
    ((first|apply g_ret|apply g_end);case hres => (simp only [smR];simp (disch := first|omega|exact kD rfl|exact kX rfl) only [smY,simprocAttr,bl,u32,u64,i64];exact rfl))
    simp (disch := first|omega|exact kD rfl|exact kX rfl) only [smY,simprocAttr,bl,u32,u64,i64]
    have h4 : val ((r.set a.length c).take (a.length + 1)) = val a + val b := by
     rw [val_set_next (by omega),he,List.take_of_length_le (Nat.le_refl _),List.take_of_length_le hle]
    rw [List.take_of_length_le (by simp [hr])] at h4
    rw [List.take_of_length_le (by simp [hr])]
    rw [eq_padL (k := a.length + 1) (hor.set (k := a.length) (d := c) (by omega)) (by simp [hr]) h4]
    simp [padL_length]
end Go.Proofs.YtlbckpljefadpaaGreat
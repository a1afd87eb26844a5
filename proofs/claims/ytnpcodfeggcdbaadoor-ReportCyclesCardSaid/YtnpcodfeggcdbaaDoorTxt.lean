/- Days as texts, in plain words: the four digits of a year, two of a month, two of a day. -/
set_option linter.unusedVariables false
namespace Go.Proofs.YtnpcodfeggcdbaaDoor.Txt
def dg (n : Int) : UInt8 := UInt8.ofNat (48 + n.toNat)
def t2 (n : Int) : List UInt8 := [dg (n / 10 % 10), dg (n % 10)]
def txt (y m d : Int) : List UInt8 := t2 (y / 100) ++ t2 y ++ [45] ++ t2 m ++ [45] ++ t2 d
end Go.Proofs.YtnpcodfeggcdbaaDoor.Txt

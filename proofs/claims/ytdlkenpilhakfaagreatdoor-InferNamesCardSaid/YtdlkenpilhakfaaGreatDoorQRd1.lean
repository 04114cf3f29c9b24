/- . -/
import Derived.Test.YtdlkenpilhakfaaGreatDoorQLexL
set_option linter.unusedSimpArgs false
set_option linter.unusedVariables false
set_option maxHeartbeats 8000000
set_option maxRecDepth 20000
namespace Go.Lamb
open Go Go.RowKit
structure eA where
 name:List UInt8
 prec:Int
 fix:Int
 deriving DecidableEq,Inhabited
inductive ah where
 |mk (k:Int) (name:List UInt8) (n:Int) (l:List ah) (pos:Int)
 deriving Inhabited
def ah.k:ah->Int| .mk k _ _ _ _=>k
def ah.name:ah->List UInt8| .mk _ s _ _ _=>s
def ah.n:ah->Int| .mk _ _ n _ _=>n
def ah.l:ah->List ah| .mk _ _ _ l _=>l
def ah.pos:ah->Int| .mk _ _ _ _ a=>a
def ah.app(a b:ah)(pos:Int):ah:=.mk 3 [] 0 [a,b] pos
def QD(o:eA)(pos:Int)(a b:ah):ah:=ah.app (ah.app (.mk 0 o.name 0 [] pos) a pos) b pos
end Go.Lamb

/- . -/
import Derived.Test.YtdlkenpilhakfaaGreatDoorQLexL
set_option linter.unusedSimpArgs false
set_option linter.unusedVariables false
set_option maxHeartbeats 8000000
set_option maxRecDepth 20000
namespace Go.Lamb
open Go Go.RowKit
structure cN where
 name:List UInt8
 prec:Int
 fix:Int
 deriving DecidableEq,Inhabited
def Hd(l:List cN)(name:List UInt8):Option cN:=l.find? (·.name==name)
inductive ao where
 |mk (k:Int) (name:List UInt8) (n:Int) (l:List ao) (pos:Int)
 deriving Inhabited
def ao.k:ao->Int| .mk k _ _ _ _=>k
def ao.name:ao->List UInt8| .mk _ s _ _ _=>s
def ao.n:ao->Int| .mk _ _ n _ _=>n
def ao.l:ao->List ao| .mk _ _ _ l _=>l
def ao.pos:ao->Int| .mk _ _ _ _ a=>a
def ao.none:ao:=.mk 0 [] 0 [] 0
def ao.app(a b:ao)(pos:Int):ao:=.mk 3 [] 0 [a,b] pos
def QU(o:cN)(pos:Int)(a b:ao):ao:=ao.app (ao.app (.mk 0 o.name 0 [] pos) a pos) b pos
end Go.Lamb

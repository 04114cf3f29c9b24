/- . -/
import Derived.Test.YtpcmcfajfnpjeaaGreatDoorQLexL
set_option linter.unusedSimpArgs false
set_option linter.unusedVariables false
set_option maxHeartbeats 8000000
set_option maxRecDepth 20000
namespace Go.Lamb
open Go Go.RowKit

structure OpT where
 name:List UInt8
 prec:Int
 fix:Int
 deriving DecidableEq,Inhabited
def findL (l:List OpT) (name:List UInt8):Option OpT:=l.find? (·.name == name)
inductive Pre where
 | mk (k:Int) (name:List UInt8) (n:Int) (l:List Pre) (pos:Int)
 deriving Inhabited
def Pre.k:Pre → Int | .mk k _ _ _ _=>k
def Pre.name:Pre → List UInt8 | .mk _ s _ _ _=>s
def Pre.n:Pre → Int | .mk _ _ n _ _=>n
def Pre.l:Pre → List Pre | .mk _ _ _ l _=>l
def Pre.pos:Pre → Int | .mk _ _ _ _ a=>a
def Pre.app (a b:Pre) (pos:Int):Pre:=.mk 3 [] 0 [a,b] pos

def lastPos (t:List Tok):Int:=(t.getLast?.map (·.pos)).getD 0
def tokL (t:List Tok) (i:Nat):Tok:=(t[i]?).getD ⟨0,[],0,lastPos t⟩
def opOf (l:List OpT) (t:Tok):Option OpT:=if t.kind = 1 ∨ t.kind = 4 then findL l t.text else none
def beginsL (l:List OpT) (t:Tok):Bool:=if t.kind = 1 ∨ t.kind = 4 then (opOf l t).isNone else t.kind = 2 ∨ t.kind = 3 ∨ t.kind = 5
def lamAt (t:List Tok) (i:Nat):Bool:=((tokL t i).kind = 1 ∨ (tokL t i).kind = 2) ∧ (tokL t (i + 1)).kind = 8
def besideL (a b:OpT) (fix:Int):Bool:=b.prec > a.prec ∨ (b.prec = a.prec ∧ a.fix = fix ∧ b.fix = fix)

structure Bad where
 e:Int
 pos:Int
 deriving DecidableEq
structure Made where
 p:Pre
 by_:Option (OpT × Int)
def clashL (o:OpT) (m:Made):Bool:=match m.by_ with
 | none=>false
 | some (b,_)=>!besideL o b 1
def applyL (o:OpT) (pos:Int) (a b:Pre):Pre:=Pre.app (Pre.app (.mk 0 o.name 0 [] pos) a pos) b pos
def nextL (o:OpT):Int:=if o.fix = 2 then o.prec else IntKind.i64.wrap (o.prec + 1)

mutual
def atomF:Nat → List OpT → List Tok → Nat → Nat → Option (Except Bad (Pre × Nat))
 | 0,_,_,_,_=>none
 | f + 1,l,t,depth,i=>
   let x:=tokL t i
   if beginsL l x = false then some (.error ⟨30,x.pos⟩)
   else if x.kind = 5 then
    let y:=tokL t (i + 1)
    if (opOf l y).isSome ∧ (tokL t (i + 2)).kind = 6 then some (.ok (.mk 0 y.text 0 [] y.pos,i + 3))
    else if 200 ≤ depth then some (.error ⟨31,x.pos⟩)
    else match exprF f l t 0 (depth + 1) (i + 1) with
     | none=>none
     | some (.error b)=>some (.error b)
     | some (.ok (m,j))=>if (tokL t j).kind = 6 then some (.ok (m.p,j + 1)) else some (.error ⟨30,(tokL t j).pos⟩)
   else if x.kind = 3 then some (.ok (.mk 2 [] x.n [] x.pos,i + 1))
   else if x.kind ≠ 4 ∧ (tokL t (i + 1)).kind = 8 then
    if 200 ≤ depth then some (.error ⟨31,x.pos⟩)
    else match exprF f l t 0 (depth + 1) (i + 2) with
     | none=>none
     | some (.error b)=>some (.error b)
     | some (.ok (m,j))=>some (.ok (.mk 4 x.text 0 [m.p] x.pos,j))
   else some (.ok (.mk (if x.kind = 2 then 1 else 0) x.text 0 [] x.pos,i + 1))
def argsF:Nat → List OpT → List Tok → Nat → Nat → Pre → Int → Bool → Option (Except Bad (Pre × Nat))
 | 0,_,_,_,_,_,_,_=>none
 | f + 1,l,t,depth,i,p,pos,last=>
   if last = true ∨ beginsL l (tokL t i) = false then some (.ok (p,i))
   else match atomF f l t depth i with
    | none=>none
    | some (.error b)=>some (.error b)
    | some (.ok (q,j))=>argsF f l t depth j (Pre.app p q pos) pos (lamAt t i)
def exprF:Nat → List OpT → List Tok → Int → Nat → Nat → Option (Except Bad (Made × Nat))
 | 0,_,_,_,_,_=>none
 | f + 1,l,t,least,depth,i=>
   match atomF f l t depth i with
   | none=>none
   | some (.error b)=>some (.error b)
   | some (.ok (p,j))=>match argsF f l t depth j p p.pos (lamAt t i) with
     | none=>none
     | some (.error b)=>some (.error b)
     | some (.ok (q,k))=>chainF f l t least depth k ⟨q,none⟩
def chainF:Nat → List OpT → List Tok → Int → Nat → Nat → Made → Option (Except Bad (Made × Nat))
 | 0,_,_,_,_,_,_=>none
 | f + 1,l,t,least,depth,i,m=>
   match opOf l (tokL t i) with
   | none=>some (.ok (m,i))
   | some o=>
     if o.prec < least then some (.ok (m,i))
     else if clashL o m = true then some (.error ⟨32,(tokL t i).pos⟩)
     else if 200 ≤ depth then some (.error ⟨31,(tokL t i).pos⟩)
     else match exprF f l t (nextL o) (depth + 1) (i + 1) with
      | none=>none
      | some (.error b)=>some (.error b)
      | some (.ok (r,j))=>match r.by_ with
        | some (b,pos)=>if besideL o b 2 = true then chainF f l t least depth j ⟨applyL o (tokL t i).pos m.p r.p,some (o,(tokL t i).pos)⟩ else some (.error ⟨32,pos⟩)
        | none=>chainF f l t least depth j ⟨applyL o (tokL t i).pos m.p r.p,some (o,(tokL t i).pos)⟩
end

def Args (l:List OpT) (t:List Tok) (depth i:Nat) (p:Pre) (pos:Int) (last:Bool) (r:Except Bad (Pre × Nat)):Prop:=∃ f,argsF f l t depth i p pos last = some r
end Go.Lamb

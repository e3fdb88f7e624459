import Derived.Test.YtmbppohkadmjgaaGreatForms
import Derived.Test.YtmbppohkadmjgaaGreatTys
import Derived.Test.YtmbppohkadmjgaaGreatBt
import Derived.Test.YtmbppohkadmjgaaGreatSt
namespace Go.Proofs.YtmbppohkadmjgaaGreat
open Go.Sx Go.RowKit
def Bb4(n m:Int):Int:=if m<1 then 0 else n%m
abbrev Bbt(g:Nat)(a:Option Addr)(c:Nat)(ts:List Int)(p:Nat):Res:=.blk g Aah [.slice a ts.length c,.int .i64 (p:Int)]
def Rolls(a:Option Addr)(ts:List Int)(P:World->Prop):Prop:=(∀w,P w->SlR (Bp .i64) 1 w a ts)/\ts.length<=1000000
theorem Rolls.and{a:Option Addr}{ts:List Int}{P:World->Prop}(h:Rolls a ts P)(Q:World->Prop):Rolls a ts fun w=>Q w/\P w:=⟨fun w k=>h.1 w k.2,h.2⟩
section
variable{g:Nat}{a:Option Addr}{c:Nat}{ts:List Int}{p:Nat}{w:World}{A:Nat->Prop}{P:World->Prop}
end
section
variable{A0:Nat->Prop}{M:List Nat}{w0 w:World}{R:List Res}{P:World->Prop}{i g:Nat}{a:Option Addr}{c:Nat}{ts:List Int}{p:Nat}
end
section
variable{g:Nat}{a:Option Addr}{c:Nat}{ts:List Int}{p:Nat}{w:World}{A:Nat->Prop}{P:World->Prop}
end
end Go.Proofs.YtmbppohkadmjgaaGreat

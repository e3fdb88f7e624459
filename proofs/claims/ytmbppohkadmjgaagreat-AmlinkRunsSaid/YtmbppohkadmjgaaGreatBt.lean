import Derived.Test.YtmbppohkadmjgaaGreatHp
namespace Go.Sx
theorem Wy(k:Nat):(2:Int)^k=((2^k:Nat):Int):=by simp
theorem Ac5{x y:Int}(k:Nat)(m:Int)(hx:x=2^k*m)(hm:0<=m)(hy:0<=y/\y<2^k)(hr:x+y<=9223372036854775807):bOr .i64 x y=x+y:=by
 obtain⟨m,rfl⟩:=Aof hm;obtain⟨y,rfl⟩:=Aof hy.1;rw[Wy]at hx hy;have hx2:x=((2^k*m:Nat):Int):=by rw[hx];simp
 have hy2:y<2^k:=by omega
 subst hx2;rw[Avt .i64 _ _ (by show _<2^64;omega) (by show _<2^64;omega),<-fQ hy2,Arg _ (by omega)];omega
theorem Qq{x:Int}(k:Nat)(hx:0<=x/\x<=9223372036854775807)(hk:k<=62){m:Int}(hm:m=2^k-1):bAnd .i64 x m=x%2^k:=by
 obtain⟨x,rfl⟩:=Aof hx.1;have h1:(2:Nat)^k<=2^62:=dB (by decide) hk;have h2:0<(2:Nat)^k:=fP (by decide);rw[Wy]at hm ⊢;have hm2:m=((2^k-1:Nat):Int):=by omega
 subst hm2;rw[Ass .i64 _ _ (by show _<2^64;omega) (by show _<2^64;omega),fL];have:=fZ x h2;rw[Arg _ (by omega)];omega
end Go.Sx

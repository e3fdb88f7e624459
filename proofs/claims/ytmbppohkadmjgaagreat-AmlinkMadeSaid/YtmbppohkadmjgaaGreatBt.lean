import Derived.Test.YtmbppohkadmjgaaGreatHp
namespace Go.Sx
theorem Xu(k:Nat):(2:Int)^k=((2^k:Nat):Int):=by simp
theorem Adm{x y:Int}(k:Nat)(m:Int)(hx:x=2^k*m)(hm:0<=m)(hy:0<=y/\y<2^k)(hr:x+y<=9223372036854775807):bOr .i64 x y=x+y:=by
 obtain⟨m,rfl⟩:=Xj hm;obtain⟨y,rfl⟩:=Xj hy.1;rw[Xu]at hx hy;have hx2:x=((2^k*m:Nat):Int):=by rw[hx];simp
 have hy2:y<2^k:=by omega
 subst hx2;rw[Awp .i64 _ _ (by show _<2^64;omega) (by show _<2^64;omega),<-Nat.two_pow_add_eq_or_of_lt hy2,Asx _ (by omega)];omega
theorem Rl{x:Int}(k:Nat)(hx:0<=x/\x<=9223372036854775807)(hk:k<=62){m:Int}(hm:m=2^k-1):bAnd .i64 x m=x%2^k:=by
 obtain⟨x,rfl⟩:=Xj hx.1;have h1:(2:Nat)^k<=2^62:=dD (by decide) hk;have h2:0<(2:Nat)^k:=Nat.pow_pos (by decide);rw[Xu]at hm ⊢;have hm2:m=((2^k-1:Nat):Int):=by omega
 subst hm2;rw[Atz .i64 _ _ (by show _<2^64;omega) (by show _<2^64;omega),Nat.and_two_pow_sub_one_eq_mod];have:=Nat.mod_lt x h2;rw[Asx _ (by omega)];omega
end Go.Sx

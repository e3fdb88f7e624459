import Derived.Test.YtmbppohkadmjgaaGreatHp
import Derived.ChangeKeysEq
namespace Go.Sx
end Go.Sx

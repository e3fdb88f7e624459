import Derived.Test.YtmbppohkadmjgaaGreatAl
namespace Go.Sx
theorem dD:type_of% @Nat.pow_le_pow_right:=@Nat.pow_le_pow_right
theorem dE:type_of% @List.mem_of_mem_take:=@List.mem_of_mem_take
theorem dF:type_of% @List.any_eq_true:=@List.any_eq_true
theorem dG:type_of% @List.take_succ_cons:=@List.take_succ_cons
theorem dH:type_of% @List.drop_succ_cons:=@List.drop_succ_cons
theorem dI:type_of% @Nat.succ_mul:=@Nat.succ_mul
theorem dJ:type_of% @Nat.sub_zero:=@Nat.sub_zero
theorem dK:type_of% @Nat.eq_zero_or_pos:=@Nat.eq_zero_or_pos
theorem dL:type_of% @Nat.add_sub_cancel:=@Nat.add_sub_cancel
theorem dM:type_of% @List.mem_filterMap:=@List.mem_filterMap
theorem dN:type_of% @Bool.not_eq_false':=@Bool.not_eq_false'
theorem dO:type_of% @if_true:=@if_true
theorem dP:type_of% @List.take_left:=@List.take_left
theorem dQ:type_of% @List.drop_zero:=@List.drop_zero
theorem dS:type_of% @List.getElem_set_self:=@List.getElem_set_self
theorem dU:type_of% @Nat.mod_eq_of_lt:=@Nat.mod_eq_of_lt
theorem dV:type_of% @List.set_append_left:=@List.set_append_left
theorem dW:type_of% @List.flatMap_append:=@List.flatMap_append
theorem dX:type_of% @List.take_zero:=@List.take_zero
theorem dY:type_of% @Bool.and_false:=@Bool.and_false
theorem dZ:type_of% @List.getElem_append_right:=@List.getElem_append_right
theorem eC:type_of% @List.foldl_append:=@List.foldl_append
theorem eE:type_of% @List.getElem_append_left:=@List.getElem_append_left
theorem eF:type_of% @List.filterMap_cons_none:=@List.filterMap_cons_none
theorem eG:type_of% @Bool.and_true:=@Bool.and_true
theorem eH:type_of% @Option.getD_none:=@Option.getD_none
theorem eI:type_of% @List.getElem_map:=@List.getElem_map
theorem eJ:type_of% @List.getElem_cons_succ:=@List.getElem_cons_succ
end Go.Sx

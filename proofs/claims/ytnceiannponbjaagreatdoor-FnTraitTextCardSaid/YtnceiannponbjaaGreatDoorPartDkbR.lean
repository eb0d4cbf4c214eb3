/-
  SEVERAL TEXTS IN ONE (merged by program): contracts and models, each with its own heading.
-/
import Derived.Test.YtnceiannponbjaaGreatDoorPartDkbQ
set_option linter.unusedSimpArgs false
set_option linter.unusedVariables false
namespace Go.Ab
theorem qG(n:Nat):JL (.sl []) (.ol n []):=fun w σ v h=>by
 cases h with
 |nil a cap=>exact .oh n a cap
 |sl b off cap aN es vals c t fz hcap hlen hb hσ hc hv=>exact .oh n _ _
theorem JL.trans{a b c:D}(h:JL a b)(k:JL b c):JL a c:=fun w σ v x=>k w σ v (h w σ v x)
theorem kW.trans:∀{a b c:List D},kW a b->kW b c->kW a c
 |_,_,_,.nil,.nil=>.nil
 |_,_,_,.cons x h,.cons y k=>.cons (x.trans y) (h.trans k)
theorem iL.trans:∀{a b c:List (List D)},iL a b->iL b c->iL a c
 |_,_,_,.nil,.nil=>.nil
 |_,_,_,.cons x h,.cons y k=>.cons (x.trans y) (h.trans k)
theorem iL.at{a b:List (List D)}(h:iL a b):∀(i:Nat)(hi:i<b.length)(hi':i<a.length),kW a[i] b[i]:=by
 induction h with
 |nil=>intro i hi;simp at hi
 |cons x h ih=>intro i hi hi';cases i with
  |zero=>exact x
  |succ i=>exact ih i (by simpa using hi) (by simpa using hi')
theorem iL.aiU{a b:List (List D)}(h:iL a b){n:Nat}{w:World}{σ:Nat->Nat}{v:Value}(hr:bU w σ (.ol n a) v):bU w σ (.ol n b) v:=by
 cases hr with
 |oh _ ad cap=>
  cases h;exact .oh n ad cap
 |ol _ b0 off cap aN es vals c t hcap hlen hb hσ hfit hc hv uy=>
  have hl:=h.length;rw[hl] at hcap hfit hc ⊢
  have hlb:∀e∈b,e.length=aN:=fun e he=>by
   obtain⟨i,hi,rfl⟩:=List.getElem_of_mem he;have h1:=h.at i hi (by omega);rw[<-h1.length];exact hlen _ (List.getElem_mem _)
  refine .ol n b0 off cap aN b vals c t hcap hlb hb hσ hfit hc (fun j d hd=> ?_) uy;obtain⟨x,hx,hle⟩:=h.flat.at j d hd;exact hle w σ _ (hv j x hx)
theorem VH{n:Nat}{a b:List (List D)}(h:iL a b):pz (.d (.ol n a)) (.d (.ol n b)):=fun w σ S β v hr=>h.aiU hr
theorem pz.trans{a b c:C}(h:pz a b)(k:pz b c):pz a c:=fun w σ S β v x=>k w σ S β v (h w σ S β v x)
end Go.Ab
import Derived.Test.YtjnlogbbcceaoaaGreatR0
import Derived.Sort.Row
import Derived.Sort.Grow
import Derived.Sort.EncStr
import Derived.Lib.RowBridge
set_option linter.all false
set_option maxRecDepth 100000
set_option maxHeartbeats 32000000
namespace Go.Sx
open Go
theorem ji {α:Type}{enc:α→List Value}{k:Nat}:∀{l:List α},(∀x∈l,(enc x).length=k)→(l.flatMap enc).length=l.length * k
 | [],_=>by simp
 | x::l,h=>by
  simp only [List.flatMap_cons,List.length_append,List.length_cons,Nat.succ_mul]
  rw [h x sq,ji (fun y hy=>h y (List.mem_cons_of_mem _ hy))];omega
theorem nh {α:Type}{enc:α→List Value}{k:Nat}:∀{l:List α},(∀x∈l,(enc x).length=k)→∀(i:Nat) (x:α),l[i]? =some x→∀j u,(enc x)[j]? =some u→(l.flatMap enc)[i * k+j]? =some u
 | [],_,i,x,hx,_,_,_=>by simp at hx
 | y::l,hk,0,x,hx,j,u,hu=>by
  simp only [List.getElem?_cons_zero,Option.some.injEq] at hx
  subst hx
  have:j<(enc y).length:=(List.getElem?_eq_some_iff.1 hu).1
  simp only [List.flatMap_cons,Nat.zero_mul,Nat.zero_add]
  rw [List.getElem?_append_left this];exact hu
 | y::l,hk,i+1,x,hx,j,u,hu=>by
  have h1:=hk y sq
  simp only [List.flatMap_cons]
  rw [List.getElem?_append_right (by rw [h1,Nat.succ_mul];omega),h1,show(i+1) * k+j - k=i * k+j by rw [Nat.succ_mul];omega]
  exact nh (fun z hz=>hk z (List.mem_cons_of_mem _ hz)) i x (by simpa using hx) j u hu
theorem vJ {α:Type}{enc:α→List Value}{k:Nat}(hk:0<k):∀{l:List α},(∀x∈l,(enc x).length=k)→∀(o:Nat) (u:Value),(l.flatMap enc)[o]? =some u→∃x,l[o / k]? =some x∧(enc x)[o % k]? =some u
 | [],_,o,u,h=>by simp at h
 | y::l,hl,o,u,h=>by
  have h1:=hl y sq
  simp only [List.flatMap_cons] at h
  by_cases ho:o<k
  ·rw [List.getElem?_append_left om] at h
   exact⟨y,by rw [Nat.div_eq_of_lt ho];rfl,by rw [Nat.mod_eq_of_lt ho];exact h⟩
  ·rw [List.getElem?_append_right om,h1] at h
   obtain⟨x,hx,hu⟩:=vJ hk (fun z hz=>hl z (List.mem_cons_of_mem _ hz)) (o - k) u h
   refine⟨x,?_,?_⟩
   ·rw [show o / k=(o - k) / k+1 by rw [← Nat.add_div_right _ hk];congr 1;omega]
    simpa using hx
   ·rw [show o % k=(o - k) % k from Nat.mod_eq_sub_mod om];exact hu
class Cells {α:Type} (k:outParam Nat) (enc:α→List Value):Prop where
 len:∀x,(enc x).length=k
 pos:0<k
 one:∀x,(enc x).all (·.oneCell')=true
def OwnSl {α:Type}(k:Nat)(enc:α→List Value)(v:Value)(xs:List α)(ob:aj):Prop:=
 (v= .slice none 0 0∧xs=[]∧ob=[])∨
 ∃b cap cs,v= .slice (some ⟨b,0,none⟩) xs.length cap∧ob=[(b,cs)]∧cs.length=cap * k∧cs.take (xs.length * k)=xs.flatMap enc∧xs.length≤cap∧cap≤9223372036854775807
theorem OwnSl.nil {α:Type}{k:Nat}{enc:α→List Value}:OwnSl k enc (.slice none 0 0) [] []:=.inl ⟨rfl,rfl,rfl⟩
theorem OwnSl.blk {α:Type}{k:Nat}{enc:α→List Value}[he:Cells k enc]{b n:Nat}{cs:List Value}(xs:List α)(hn:n=xs.length)(hc:cs=xs.flatMap enc)(hm:n≤9223372036854775807):OwnSl k enc (.slice (some ⟨b,0,none⟩) n n) xs [(b,cs)]:=by
 subst hn hc
 have:=ji (l:=xs) (fun x _=>he.len x)
 exact .inr ⟨b,_,_,rfl,rfl,this,by rw [← this,List.take_length],Nat.le_refl _,hm⟩
theorem OwnSl.max {α:Type}{k:Nat}{enc:α→List Value}{v:Value}{xs:List α}{ob:aj}(h:OwnSl k enc v xs ob):xs.length≤9223372036854775807:=by
 rcases h with ⟨_,rfl,_⟩ | ⟨b,cap,cs,_,_,_,_,h1,h2⟩
 ·simp
 ·omega
theorem OwnSl.form {α:Type}{k:Nat}{enc:α→List Value}{v:Value}{xs:List α}{ob:aj}(h:OwnSl k enc v xs ob):∃a c,v= .slice a xs.length c:=by
 rcases h with ⟨rfl,rfl,_⟩ | ⟨b,cap,cs,rfl,_⟩
 ·exact⟨_,_,rfl⟩
 ·exact⟨_,_,rfl⟩
inductive Tl (ob:aj):aj→(aj→aj)→Prop
 | all:Tl ob ob (fun ob'=>ob')
 | app (R:aj):Tl ob (ob++R) (fun ob'=>ob'++R)
 | skip (x:Nat×List Value) {L:aj} {F:aj→aj} (h:Tl ob L F):Tl ob (x::L) (fun ob'=>x::F ob')
 | new (L:aj) (h:ob=[]):Tl ob L (fun ob'=>L++ob')
 | take {x:Nat×List Value} {L R:aj} (h:Mv x L R) (e:ob=[x]):Tl ob L (fun ob'=>R++ob')
 | past (A:aj) {L:aj} {F:aj→aj} (h:Tl ob L F):Tl ob (A++L) (fun ob'=>A++F ob')
theorem InL.h1 {b:Nat}{cs:List Value}{x0:Nat×List Value}{L:aj}:InL b cs (x0::(b,cs)::L):=.there _ (.here _)
theorem Upd.h1 {b:Nat}{cs cs':List Value}{x0:Nat×List Value}{L:aj}:Upd b cs cs' (x0::(b,cs)::L) (x0::(b,cs')::L):=.there _ (.here _)
theorem Mv.h1 {x x0:Nat×List Value}{L:aj}:Mv x (x0::x::L) (x0::L):=.there _ (.here _)
theorem InL.h2 {b:Nat}{cs:List Value}{x0 x1:Nat×List Value}{L:aj}:InL b cs (x0::x1::(b,cs)::L):=.there _ (.there _ (.here _))
theorem Upd.h2 {b:Nat}{cs cs':List Value}{x0 x1:Nat×List Value}{L:aj}:Upd b cs cs' (x0::x1::(b,cs)::L) (x0::x1::(b,cs')::L):=.there _ (.there _ (.here _))
theorem Mv.h2 {x x0 x1:Nat×List Value}{L:aj}:Mv x (x0::x1::x::L) (x0::x1::L):=.there _ (.there _ (.here _))
theorem InL.h3 {b:Nat}{cs:List Value}{x0 x1 x2:Nat×List Value}{L:aj}:InL b cs (x0::x1::x2::(b,cs)::L):=.there _ (.there _ (.there _ (.here _)))
theorem Upd.h3 {b:Nat}{cs cs':List Value}{x0 x1 x2:Nat×List Value}{L:aj}:Upd b cs cs' (x0::x1::x2::(b,cs)::L) (x0::x1::x2::(b,cs')::L):=.there _ (.there _ (.there _ (.here _)))
theorem Mv.h3 {x x0 x1 x2:Nat×List Value}{L:aj}:Mv x (x0::x1::x2::x::L) (x0::x1::x2::L):=.there _ (.there _ (.there _ (.here _)))
theorem InL.h4 {b:Nat}{cs:List Value}{x0 x1 x2 x3:Nat×List Value}{L:aj}:InL b cs (x0::x1::x2::x3::(b,cs)::L):=.there _ (.there _ (.there _ (.there _ (.here _))))
theorem Upd.h4 {b:Nat}{cs cs':List Value}{x0 x1 x2 x3:Nat×List Value}{L:aj}:Upd b cs cs' (x0::x1::x2::x3::(b,cs)::L) (x0::x1::x2::x3::(b,cs')::L):=.there _ (.there _ (.there _ (.there _ (.here _))))
theorem Mv.h4 {x x0 x1 x2 x3:Nat×List Value}{L:aj}:Mv x (x0::x1::x2::x3::x::L) (x0::x1::x2::x3::L):=.there _ (.there _ (.there _ (.there _ (.here _))))
theorem InL.h5 {b:Nat}{cs:List Value}{x0 x1 x2 x3 x4:Nat×List Value}{L:aj}:InL b cs (x0::x1::x2::x3::x4::(b,cs)::L):=.there _ (.there _ (.there _ (.there _ (.there _ (.here _)))))
theorem Upd.h5 {b:Nat}{cs cs':List Value}{x0 x1 x2 x3 x4:Nat×List Value}{L:aj}:Upd b cs cs' (x0::x1::x2::x3::x4::(b,cs)::L) (x0::x1::x2::x3::x4::(b,cs')::L):=.there _ (.there _ (.there _ (.there _ (.there _ (.here _)))))
theorem Mv.h5 {x x0 x1 x2 x3 x4:Nat×List Value}{L:aj}:Mv x (x0::x1::x2::x3::x4::x::L) (x0::x1::x2::x3::x4::L):=.there _ (.there _ (.there _ (.there _ (.there _ (.here _)))))
theorem InL.h6 {b:Nat}{cs:List Value}{x0 x1 x2 x3 x4 x5:Nat×List Value}{L:aj}:InL b cs (x0::x1::x2::x3::x4::x5::(b,cs)::L):=.there _ (.there _ (.there _ (.there _ (.there _ (.there _ (.here _))))))
theorem Upd.h6 {b:Nat}{cs cs':List Value}{x0 x1 x2 x3 x4 x5:Nat×List Value}{L:aj}:Upd b cs cs' (x0::x1::x2::x3::x4::x5::(b,cs)::L) (x0::x1::x2::x3::x4::x5::(b,cs')::L):=.there _ (.there _ (.there _ (.there _ (.there _ (.there _ (.here _))))))
theorem Mv.h6 {x x0 x1 x2 x3 x4 x5:Nat×List Value}{L:aj}:Mv x (x0::x1::x2::x3::x4::x5::x::L) (x0::x1::x2::x3::x4::x5::L):=.there _ (.there _ (.there _ (.there _ (.there _ (.there _ (.here _))))))
theorem InL.h7 {b:Nat}{cs:List Value}{x0 x1 x2 x3 x4 x5 x6:Nat×List Value}{L:aj}:InL b cs (x0::x1::x2::x3::x4::x5::x6::(b,cs)::L):=.there _ (.there _ (.there _ (.there _ (.there _ (.there _ (.there _ (.here _)))))))
theorem Upd.h7 {b:Nat}{cs cs':List Value}{x0 x1 x2 x3 x4 x5 x6:Nat×List Value}{L:aj}:Upd b cs cs' (x0::x1::x2::x3::x4::x5::x6::(b,cs)::L) (x0::x1::x2::x3::x4::x5::x6::(b,cs')::L):=.there _ (.there _ (.there _ (.there _ (.there _ (.there _ (.there _ (.here _)))))))
theorem Mv.h7 {x x0 x1 x2 x3 x4 x5 x6:Nat×List Value}{L:aj}:Mv x (x0::x1::x2::x3::x4::x5::x6::x::L) (x0::x1::x2::x3::x4::x5::x6::L):=.there _ (.there _ (.there _ (.there _ (.there _ (.there _ (.there _ (.here _)))))))
theorem InL.h8 {b:Nat}{cs:List Value}{x0 x1 x2 x3 x4 x5 x6 x7:Nat×List Value}{L:aj}:InL b cs (x0::x1::x2::x3::x4::x5::x6::x7::(b,cs)::L):=.there _ (.there _ (.there _ (.there _ (.there _ (.there _ (.there _ (.there _ (.here _))))))))
theorem Upd.h8 {b:Nat}{cs cs':List Value}{x0 x1 x2 x3 x4 x5 x6 x7:Nat×List Value}{L:aj}:Upd b cs cs' (x0::x1::x2::x3::x4::x5::x6::x7::(b,cs)::L) (x0::x1::x2::x3::x4::x5::x6::x7::(b,cs')::L):=.there _ (.there _ (.there _ (.there _ (.there _ (.there _ (.there _ (.there _ (.here _))))))))
theorem Mv.h8 {x x0 x1 x2 x3 x4 x5 x6 x7:Nat×List Value}{L:aj}:Mv x (x0::x1::x2::x3::x4::x5::x6::x7::x::L) (x0::x1::x2::x3::x4::x5::x6::x7::L):=.there _ (.there _ (.there _ (.there _ (.there _ (.there _ (.there _ (.there _ (.here _))))))))
theorem InL.h9 {b:Nat}{cs:List Value}{x0 x1 x2 x3 x4 x5 x6 x7 x8:Nat×List Value}{L:aj}:InL b cs (x0::x1::x2::x3::x4::x5::x6::x7::x8::(b,cs)::L):=.there _ (.there _ (.there _ (.there _ (.there _ (.there _ (.there _ (.there _ (.there _ (.here _)))))))))
theorem Upd.h9 {b:Nat}{cs cs':List Value}{x0 x1 x2 x3 x4 x5 x6 x7 x8:Nat×List Value}{L:aj}:Upd b cs cs' (x0::x1::x2::x3::x4::x5::x6::x7::x8::(b,cs)::L) (x0::x1::x2::x3::x4::x5::x6::x7::x8::(b,cs')::L):=.there _ (.there _ (.there _ (.there _ (.there _ (.there _ (.there _ (.there _ (.there _ (.here _)))))))))
theorem Mv.h9 {x x0 x1 x2 x3 x4 x5 x6 x7 x8:Nat×List Value}{L:aj}:Mv x (x0::x1::x2::x3::x4::x5::x6::x7::x8::x::L) (x0::x1::x2::x3::x4::x5::x6::x7::x8::L):=.there _ (.there _ (.there _ (.there _ (.there _ (.there _ (.there _ (.there _ (.there _ (.here _)))))))))
theorem InL.h10 {b:Nat}{cs:List Value}{x0 x1 x2 x3 x4 x5 x6 x7 x8 x9:Nat×List Value}{L:aj}:InL b cs (x0::x1::x2::x3::x4::x5::x6::x7::x8::x9::(b,cs)::L):=.there _ (.there _ (.there _ (.there _ (.there _ (.there _ (.there _ (.there _ (.there _ (.there _ (.here _))))))))))
theorem Upd.h10 {b:Nat}{cs cs':List Value}{x0 x1 x2 x3 x4 x5 x6 x7 x8 x9:Nat×List Value}{L:aj}:Upd b cs cs' (x0::x1::x2::x3::x4::x5::x6::x7::x8::x9::(b,cs)::L) (x0::x1::x2::x3::x4::x5::x6::x7::x8::x9::(b,cs')::L):=.there _ (.there _ (.there _ (.there _ (.there _ (.there _ (.there _ (.there _ (.there _ (.there _ (.here _))))))))))
theorem Mv.h10 {x x0 x1 x2 x3 x4 x5 x6 x7 x8 x9:Nat×List Value}{L:aj}:Mv x (x0::x1::x2::x3::x4::x5::x6::x7::x8::x9::x::L) (x0::x1::x2::x3::x4::x5::x6::x7::x8::x9::L):=.there _ (.there _ (.there _ (.there _ (.there _ (.there _ (.there _ (.there _ (.there _ (.there _ (.here _))))))))))
theorem InL.h11 {b:Nat}{cs:List Value}{x0 x1 x2 x3 x4 x5 x6 x7 x8 x9 x10:Nat×List Value}{L:aj}:InL b cs (x0::x1::x2::x3::x4::x5::x6::x7::x8::x9::x10::(b,cs)::L):=.there _ (.there _ (.there _ (.there _ (.there _ (.there _ (.there _ (.there _ (.there _ (.there _ (.there _ (.here _)))))))))))
theorem Upd.h11 {b:Nat}{cs cs':List Value}{x0 x1 x2 x3 x4 x5 x6 x7 x8 x9 x10:Nat×List Value}{L:aj}:Upd b cs cs' (x0::x1::x2::x3::x4::x5::x6::x7::x8::x9::x10::(b,cs)::L) (x0::x1::x2::x3::x4::x5::x6::x7::x8::x9::x10::(b,cs')::L):=.there _ (.there _ (.there _ (.there _ (.there _ (.there _ (.there _ (.there _ (.there _ (.there _ (.there _ (.here _)))))))))))
theorem Mv.h11 {x x0 x1 x2 x3 x4 x5 x6 x7 x8 x9 x10:Nat×List Value}{L:aj}:Mv x (x0::x1::x2::x3::x4::x5::x6::x7::x8::x9::x10::x::L) (x0::x1::x2::x3::x4::x5::x6::x7::x8::x9::x10::L):=.there _ (.there _ (.there _ (.there _ (.there _ (.there _ (.there _ (.there _ (.there _ (.there _ (.there _ (.here _)))))))))))
theorem InL.h12 {b:Nat}{cs:List Value}{x0 x1 x2 x3 x4 x5 x6 x7 x8 x9 x10 x11:Nat×List Value}{L:aj}:InL b cs (x0::x1::x2::x3::x4::x5::x6::x7::x8::x9::x10::x11::(b,cs)::L):=.there _ (.there _ (.there _ (.there _ (.there _ (.there _ (.there _ (.there _ (.there _ (.there _ (.there _ (.there _ (.here _))))))))))))
theorem Upd.h12 {b:Nat}{cs cs':List Value}{x0 x1 x2 x3 x4 x5 x6 x7 x8 x9 x10 x11:Nat×List Value}{L:aj}:Upd b cs cs' (x0::x1::x2::x3::x4::x5::x6::x7::x8::x9::x10::x11::(b,cs)::L) (x0::x1::x2::x3::x4::x5::x6::x7::x8::x9::x10::x11::(b,cs')::L):=.there _ (.there _ (.there _ (.there _ (.there _ (.there _ (.there _ (.there _ (.there _ (.there _ (.there _ (.there _ (.here _))))))))))))
theorem Mv.h12 {x x0 x1 x2 x3 x4 x5 x6 x7 x8 x9 x10 x11:Nat×List Value}{L:aj}:Mv x (x0::x1::x2::x3::x4::x5::x6::x7::x8::x9::x10::x11::x::L) (x0::x1::x2::x3::x4::x5::x6::x7::x8::x9::x10::x11::L):=.there _ (.there _ (.there _ (.there _ (.there _ (.there _ (.there _ (.there _ (.there _ (.there _ (.there _ (.there _ (.here _))))))))))))
theorem InL.h13 {b:Nat}{cs:List Value}{x0 x1 x2 x3 x4 x5 x6 x7 x8 x9 x10 x11 x12:Nat×List Value}{L:aj}:InL b cs (x0::x1::x2::x3::x4::x5::x6::x7::x8::x9::x10::x11::x12::(b,cs)::L):=.there _ (.there _ (.there _ (.there _ (.there _ (.there _ (.there _ (.there _ (.there _ (.there _ (.there _ (.there _ (.there _ (.here _)))))))))))))
theorem Upd.h13 {b:Nat}{cs cs':List Value}{x0 x1 x2 x3 x4 x5 x6 x7 x8 x9 x10 x11 x12:Nat×List Value}{L:aj}:Upd b cs cs' (x0::x1::x2::x3::x4::x5::x6::x7::x8::x9::x10::x11::x12::(b,cs)::L) (x0::x1::x2::x3::x4::x5::x6::x7::x8::x9::x10::x11::x12::(b,cs')::L):=.there _ (.there _ (.there _ (.there _ (.there _ (.there _ (.there _ (.there _ (.there _ (.there _ (.there _ (.there _ (.there _ (.here _)))))))))))))
theorem Mv.h13 {x x0 x1 x2 x3 x4 x5 x6 x7 x8 x9 x10 x11 x12:Nat×List Value}{L:aj}:Mv x (x0::x1::x2::x3::x4::x5::x6::x7::x8::x9::x10::x11::x12::x::L) (x0::x1::x2::x3::x4::x5::x6::x7::x8::x9::x10::x11::x12::L):=.there _ (.there _ (.there _ (.there _ (.there _ (.there _ (.there _ (.there _ (.there _ (.there _ (.there _ (.there _ (.there _ (.here _)))))))))))))
theorem InL.h14 {b:Nat}{cs:List Value}{x0 x1 x2 x3 x4 x5 x6 x7 x8 x9 x10 x11 x12 x13:Nat×List Value}{L:aj}:InL b cs (x0::x1::x2::x3::x4::x5::x6::x7::x8::x9::x10::x11::x12::x13::(b,cs)::L):=.there _ (.there _ (.there _ (.there _ (.there _ (.there _ (.there _ (.there _ (.there _ (.there _ (.there _ (.there _ (.there _ (.there _ (.here _))))))))))))))
theorem Upd.h14 {b:Nat}{cs cs':List Value}{x0 x1 x2 x3 x4 x5 x6 x7 x8 x9 x10 x11 x12 x13:Nat×List Value}{L:aj}:Upd b cs cs' (x0::x1::x2::x3::x4::x5::x6::x7::x8::x9::x10::x11::x12::x13::(b,cs)::L) (x0::x1::x2::x3::x4::x5::x6::x7::x8::x9::x10::x11::x12::x13::(b,cs')::L):=.there _ (.there _ (.there _ (.there _ (.there _ (.there _ (.there _ (.there _ (.there _ (.there _ (.there _ (.there _ (.there _ (.there _ (.here _))))))))))))))
theorem Mv.h14 {x x0 x1 x2 x3 x4 x5 x6 x7 x8 x9 x10 x11 x12 x13:Nat×List Value}{L:aj}:Mv x (x0::x1::x2::x3::x4::x5::x6::x7::x8::x9::x10::x11::x12::x13::x::L) (x0::x1::x2::x3::x4::x5::x6::x7::x8::x9::x10::x11::x12::x13::L):=.there _ (.there _ (.there _ (.there _ (.there _ (.there _ (.there _ (.there _ (.there _ (.there _ (.there _ (.there _ (.there _ (.there _ (.here _))))))))))))))
theorem Tl.s2 {ob:aj}{x0 x1:Nat×List Value}{L:aj}{F:aj→aj}(h:Tl ob L F):Tl ob (x0::x1::L) (fun ob'=>x0::x1::F ob'):=.skip _ (.skip _ (h))
theorem Tl.s3 {ob:aj}{x0 x1 x2:Nat×List Value}{L:aj}{F:aj→aj}(h:Tl ob L F):Tl ob (x0::x1::x2::L) (fun ob'=>x0::x1::x2::F ob'):=.skip _ (.skip _ (.skip _ (h)))
theorem Tl.s4 {ob:aj}{x0 x1 x2 x3:Nat×List Value}{L:aj}{F:aj→aj}(h:Tl ob L F):Tl ob (x0::x1::x2::x3::L) (fun ob'=>x0::x1::x2::x3::F ob'):=.skip _ (.skip _ (.skip _ (.skip _ (h))))
theorem Tl.s5 {ob:aj}{x0 x1 x2 x3 x4:Nat×List Value}{L:aj}{F:aj→aj}(h:Tl ob L F):Tl ob (x0::x1::x2::x3::x4::L) (fun ob'=>x0::x1::x2::x3::x4::F ob'):=.skip _ (.skip _ (.skip _ (.skip _ (.skip _ (h)))))
theorem Tl.s6 {ob:aj}{x0 x1 x2 x3 x4 x5:Nat×List Value}{L:aj}{F:aj→aj}(h:Tl ob L F):Tl ob (x0::x1::x2::x3::x4::x5::L) (fun ob'=>x0::x1::x2::x3::x4::x5::F ob'):=.skip _ (.skip _ (.skip _ (.skip _ (.skip _ (.skip _ (h))))))
theorem Tl.s7 {ob:aj}{x0 x1 x2 x3 x4 x5 x6:Nat×List Value}{L:aj}{F:aj→aj}(h:Tl ob L F):Tl ob (x0::x1::x2::x3::x4::x5::x6::L) (fun ob'=>x0::x1::x2::x3::x4::x5::x6::F ob'):=.skip _ (.skip _ (.skip _ (.skip _ (.skip _ (.skip _ (.skip _ (h)))))))
theorem Tl.s8 {ob:aj}{x0 x1 x2 x3 x4 x5 x6 x7:Nat×List Value}{L:aj}{F:aj→aj}(h:Tl ob L F):Tl ob (x0::x1::x2::x3::x4::x5::x6::x7::L) (fun ob'=>x0::x1::x2::x3::x4::x5::x6::x7::F ob'):=.skip _ (.skip _ (.skip _ (.skip _ (.skip _ (.skip _ (.skip _ (.skip _ (h))))))))
theorem Tl.s9 {ob:aj}{x0 x1 x2 x3 x4 x5 x6 x7 x8:Nat×List Value}{L:aj}{F:aj→aj}(h:Tl ob L F):Tl ob (x0::x1::x2::x3::x4::x5::x6::x7::x8::L) (fun ob'=>x0::x1::x2::x3::x4::x5::x6::x7::x8::F ob'):=.skip _ (.skip _ (.skip _ (.skip _ (.skip _ (.skip _ (.skip _ (.skip _ (.skip _ (h)))))))))
theorem Tl.s10 {ob:aj}{x0 x1 x2 x3 x4 x5 x6 x7 x8 x9:Nat×List Value}{L:aj}{F:aj→aj}(h:Tl ob L F):Tl ob (x0::x1::x2::x3::x4::x5::x6::x7::x8::x9::L) (fun ob'=>x0::x1::x2::x3::x4::x5::x6::x7::x8::x9::F ob'):=.skip _ (.skip _ (.skip _ (.skip _ (.skip _ (.skip _ (.skip _ (.skip _ (.skip _ (.skip _ (h))))))))))
theorem Tl.s11 {ob:aj}{x0 x1 x2 x3 x4 x5 x6 x7 x8 x9 x10:Nat×List Value}{L:aj}{F:aj→aj}(h:Tl ob L F):Tl ob (x0::x1::x2::x3::x4::x5::x6::x7::x8::x9::x10::L) (fun ob'=>x0::x1::x2::x3::x4::x5::x6::x7::x8::x9::x10::F ob'):=.skip _ (.skip _ (.skip _ (.skip _ (.skip _ (.skip _ (.skip _ (.skip _ (.skip _ (.skip _ (.skip _ (h)))))))))))
theorem Tl.s12 {ob:aj}{x0 x1 x2 x3 x4 x5 x6 x7 x8 x9 x10 x11:Nat×List Value}{L:aj}{F:aj→aj}(h:Tl ob L F):Tl ob (x0::x1::x2::x3::x4::x5::x6::x7::x8::x9::x10::x11::L) (fun ob'=>x0::x1::x2::x3::x4::x5::x6::x7::x8::x9::x10::x11::F ob'):=.skip _ (.skip _ (.skip _ (.skip _ (.skip _ (.skip _ (.skip _ (.skip _ (.skip _ (.skip _ (.skip _ (.skip _ (h))))))))))))
theorem Tl.s13 {ob:aj}{x0 x1 x2 x3 x4 x5 x6 x7 x8 x9 x10 x11 x12:Nat×List Value}{L:aj}{F:aj→aj}(h:Tl ob L F):Tl ob (x0::x1::x2::x3::x4::x5::x6::x7::x8::x9::x10::x11::x12::L) (fun ob'=>x0::x1::x2::x3::x4::x5::x6::x7::x8::x9::x10::x11::x12::F ob'):=.skip _ (.skip _ (.skip _ (.skip _ (.skip _ (.skip _ (.skip _ (.skip _ (.skip _ (.skip _ (.skip _ (.skip _ (.skip _ (h)))))))))))))
theorem Tl.s14 {ob:aj}{x0 x1 x2 x3 x4 x5 x6 x7 x8 x9 x10 x11 x12 x13:Nat×List Value}{L:aj}{F:aj→aj}(h:Tl ob L F):Tl ob (x0::x1::x2::x3::x4::x5::x6::x7::x8::x9::x10::x11::x12::x13::L) (fun ob'=>x0::x1::x2::x3::x4::x5::x6::x7::x8::x9::x10::x11::x12::x13::F ob'):=.skip _ (.skip _ (.skip _ (.skip _ (.skip _ (.skip _ (.skip _ (.skip _ (.skip _ (.skip _ (.skip _ (.skip _ (.skip _ (.skip _ (h))))))))))))))
theorem Tl.s15 {ob:aj}{x0 x1 x2 x3 x4 x5 x6 x7 x8 x9 x10 x11 x12 x13 x14:Nat×List Value}{L:aj}{F:aj→aj}(h:Tl ob L F):Tl ob (x0::x1::x2::x3::x4::x5::x6::x7::x8::x9::x10::x11::x12::x13::x14::L) (fun ob'=>x0::x1::x2::x3::x4::x5::x6::x7::x8::x9::x10::x11::x12::x13::x14::F ob'):=.skip _ (.skip _ (.skip _ (.skip _ (.skip _ (.skip _ (.skip _ (.skip _ (.skip _ (.skip _ (.skip _ (.skip _ (.skip _ (.skip _ (.skip _ (h)))))))))))))))
theorem Tl.s16 {ob:aj}{x0 x1 x2 x3 x4 x5 x6 x7 x8 x9 x10 x11 x12 x13 x14 x15:Nat×List Value}{L:aj}{F:aj→aj}(h:Tl ob L F):Tl ob (x0::x1::x2::x3::x4::x5::x6::x7::x8::x9::x10::x11::x12::x13::x14::x15::L) (fun ob'=>x0::x1::x2::x3::x4::x5::x6::x7::x8::x9::x10::x11::x12::x13::x14::x15::F ob'):=.skip _ (.skip _ (.skip _ (.skip _ (.skip _ (.skip _ (.skip _ (.skip _ (.skip _ (.skip _ (.skip _ (.skip _ (.skip _ (.skip _ (.skip _ (.skip _ (h))))))))))))))))
theorem InL.t2 {b:Nat}{cs:List Value}{x0 x1:Nat×List Value}{L:aj}(h:InL b cs L):InL b cs (x0::x1::L):=.there _ (.there _ (h))
theorem Upd.t2 {b:Nat}{cs cs':List Value}{x0 x1:Nat×List Value}{L L':aj}(h:Upd b cs cs' L L'):Upd b cs cs' (x0::x1::L) (x0::x1::L'):=.there _ (.there _ (h))
theorem Mv.t2 {x x0 x1:Nat×List Value}{L R:aj}(h:Mv x L R):Mv x (x0::x1::L) (x0::x1::R):=.there _ (.there _ (h))
theorem InL.t3 {b:Nat}{cs:List Value}{x0 x1 x2:Nat×List Value}{L:aj}(h:InL b cs L):InL b cs (x0::x1::x2::L):=.there _ (.there _ (.there _ (h)))
theorem Upd.t3 {b:Nat}{cs cs':List Value}{x0 x1 x2:Nat×List Value}{L L':aj}(h:Upd b cs cs' L L'):Upd b cs cs' (x0::x1::x2::L) (x0::x1::x2::L'):=.there _ (.there _ (.there _ (h)))
theorem Mv.t3 {x x0 x1 x2:Nat×List Value}{L R:aj}(h:Mv x L R):Mv x (x0::x1::x2::L) (x0::x1::x2::R):=.there _ (.there _ (.there _ (h)))
theorem InL.t4 {b:Nat}{cs:List Value}{x0 x1 x2 x3:Nat×List Value}{L:aj}(h:InL b cs L):InL b cs (x0::x1::x2::x3::L):=.there _ (.there _ (.there _ (.there _ (h))))
theorem Upd.t4 {b:Nat}{cs cs':List Value}{x0 x1 x2 x3:Nat×List Value}{L L':aj}(h:Upd b cs cs' L L'):Upd b cs cs' (x0::x1::x2::x3::L) (x0::x1::x2::x3::L'):=.there _ (.there _ (.there _ (.there _ (h))))
theorem Mv.t4 {x x0 x1 x2 x3:Nat×List Value}{L R:aj}(h:Mv x L R):Mv x (x0::x1::x2::x3::L) (x0::x1::x2::x3::R):=.there _ (.there _ (.there _ (.there _ (h))))
theorem InL.t5 {b:Nat}{cs:List Value}{x0 x1 x2 x3 x4:Nat×List Value}{L:aj}(h:InL b cs L):InL b cs (x0::x1::x2::x3::x4::L):=.there _ (.there _ (.there _ (.there _ (.there _ (h)))))
theorem Upd.t5 {b:Nat}{cs cs':List Value}{x0 x1 x2 x3 x4:Nat×List Value}{L L':aj}(h:Upd b cs cs' L L'):Upd b cs cs' (x0::x1::x2::x3::x4::L) (x0::x1::x2::x3::x4::L'):=.there _ (.there _ (.there _ (.there _ (.there _ (h)))))
theorem Mv.t5 {x x0 x1 x2 x3 x4:Nat×List Value}{L R:aj}(h:Mv x L R):Mv x (x0::x1::x2::x3::x4::L) (x0::x1::x2::x3::x4::R):=.there _ (.there _ (.there _ (.there _ (.there _ (h)))))
theorem Tl.perm {ob L:aj}{F:aj→aj}(h:Tl ob L F):∃R,L.Perm (ob++R)∧∀ob',(F ob').Perm (ob'++R):=by
 induction h with
 | all=>exact⟨[],by simp,by simp⟩
 | app R=>exact⟨R,List.Perm.refl _,fun _=>List.Perm.refl _⟩
 | skip x _ ih=>
  obtain⟨R,h1,h2⟩:=ih
  exact⟨x::R,(h1.cons x).trans List.perm_middle.symm,fun ob'=>((h2 ob').cons x).trans List.perm_middle.symm⟩
 | new L h=>
  subst h
  exact⟨L,by simp,fun ob'=>List.perm_append_comm⟩
 | take h e=>
  subst e
  exact⟨_,h.perm,fun ob'=>List.perm_append_comm⟩
 | past A _ ih=>
  obtain⟨R,h1,h2⟩:=ih
  have key:∀(B:aj),(A++(B++R)).Perm (B++(A++R)):=fun B=>by
   rw [← List.append_assoc,← List.append_assoc];exact(List.perm_append_comm).append_right R
  exact⟨A++R,(h1.append_left A).trans (key _),fun ob'=>((h2 ob').append_left A).trans (key _)⟩
def Src {α:Type}(M:List Nat)(w0:World)(H0 H:Hp)(L:aj)(enc:α→List Value)(v:Value)(ys:List α):Prop:=
 ∃a cap,v= .slice a ys.length cap∧(ys≠[]→∃b o,a=some ⟨b,o,none⟩∧∀w,St M w0 H0 H L w→∀j u,(ys.flatMap enc)[j]? =some u→w.cell? ⟨b,o+j,none⟩=some u)
section
variable {P:Program}{n:Nat}{ops:Array Oper}{Ri:World→Prop}{Q:Exit→Act→World→Prop}{E:Env}{M:List Nat}{w0:World}{H0 H:Hp}{L:aj}{C:World→Prop}{rest:List Oper}{dst:Option Nat}{ty:TypeId}{pos:String}{aft:Array Edge}
theorem Src.sl {α:Type}{k:Nat}{enc:α→List Value}[he:Cells k enc]{v:Value}{ys:List α}(h:RdSl H k enc v ys):Src M w0 H0 H L enc v ys:=by
 obtain⟨a,cap,rfl⟩:=h.len
 refine⟨a,cap,rfl,fun hne=>?_⟩
 obtain⟨cap',hv⟩:=h.addr hne
 refine⟨_,_,(Value.slice.inj hv).1,fun w hw j u hu=>?_⟩
 obtain⟨x,hx,hux⟩:=vJ he.pos (fun x _=>he.len x) j u hu
 have:=hw.hp _ _ _ (h.get _ x hx _ u hux)
 rw [Nat.add_assoc,Nat.div_add_mod'] at this
 exact this
theorem Src.own {α:Type}{k:Nat}{enc:α→List Value}[he:Cells k enc]{b m cap:Nat}{cs:List Value}(ys:List α)(hL:InL b cs L)(hm:m=ys.length)(hc:cs.take (m * k)=ys.flatMap enc):Src M w0 H0 H L enc (.slice (some ⟨b,0,none⟩) m cap) ys:=by
 subst hm
 refine⟨_,_,rfl,fun _=>⟨_,_,rfl,fun w hw j u hu=>?_⟩⟩
 rw [Nat.zero_add,hw.cell hL j]
 rw [← hc,List.getElem?_take] at hu
 split at hu
 ·exact hu
 ·cases hu
theorem Src.none {α:Type}{enc:α→List Value}:Src M w0 H0 H L enc (.slice none 0 0) ([]:List α):=⟨_,_,rfl,fun h=>absurd rfl h⟩
theorem Src.og {α:Type}{k:Nat}{enc:α→List Value}[he:Cells k enc]{v:Value}{ys:List α}{ob:aj}{F:aj→aj}(hO:OwnSl k enc v ys ob)(hU:Tl ob L F):Src M w0 H0 H L enc v ys:=by
 rcases hO with ⟨rfl,rfl,rfl⟩ | ⟨b,cap,cs,rfl,rfl,hcl,htk,hle,hcm⟩
 ·exact Src.none
 ·obtain⟨R,hp1,_⟩:=hU.perm
  refine⟨_,_,rfl,fun _=>⟨_,_,rfl,fun w hw j u hu=>?_⟩⟩
  rw [Nat.zero_add,(hw.perm hp1).cell (.here _) j]
  rw [← htk,List.getElem?_take] at hu
  split at hu
  ·exact hu
  ·cases hu
theorem gm:∀(vs cs:List Value) (o:Nat),o+vs.length≤cs.length→bY cs o vs=cs.take o++(vs++cs.drop (o+vs.length))
 | [],cs,o,_=>by simp [bY]
 | v::vs,cs,o,h=>by
  simp only [bY]
  simp only [List.length_cons] at h
  rw [gm vs (cs.set o v) (o+1) (by simp;omega)]
  apply List.ext_getElem?
  intro i
  simp only [List.getElem?_append,List.getElem?_take,List.getElem?_drop,List.length_take,List.length_set,List.getElem?_set,List.getElem?_cons,List.length_cons,List.length_drop,List.length_append,List.cons_append]
  by_cases h1:i<o
  ·have:i<min (o+1) cs.length:=by omega
   have h2:i<min o cs.length:=by omega
   simp [this,h2,show ¬o=i by omega,h1,show i<o+1 by omega]
  ·by_cases h2:i=o
   ·subst h2
    have h3:i<min (i+1) cs.length:=by omega
    have h4:min i cs.length=i:=by omega
    simp [h3,h4,show i<cs.length by omega]
   ·have h3:¬i<min (o+1) cs.length:=by omega
    have h4:¬i<min o cs.length:=by omega
    simp only [h3,h4,if_false]
    rw [show min (o+1) cs.length=o+1 by omega,show min o cs.length=o by omega]
    by_cases h5:i - (o+1)<vs.length
    ·simp [h5,show ¬i - o=0 by omega,show i - o - 1=i - (o+1) by omega]
    ·simp [h5,show ¬i - o=0 by omega,show i - o - 1=i - (o+1) by omega,show ¬o=o+1+vs.length+(i - (o+1) - vs.length) by omega,show o+(vs.length+1)+(i - (o+1) - vs.length)=o+1+vs.length+(i - (o+1) - vs.length) by omega]
theorem zV {α : Type} {k e bs t : Nat} {z : List Value} {enc : α → List Value} [hc : Cells k enc] [hE : Elz P t e k bs z] {v v2 : Value} {xs ys : List α} {ob : aj} {F : aj → aj} {ty : TypeId}
  (hO : OwnSl k enc v xs ob) (hS : Src M w0 H0 H L enc v2 ys) (hb : (xs.length + ys.length) * bs ≤ 140737488355328) (hbs : 0 < bs) (hU : Tl ob L F) {w : World} (hw : St M w0 H0 H L w) :
  ∃ v' ob' w', OwnSl k enc v' (xs ++ ys) ob' ∧ St M w0 H0 H (F ob') w' ∧ (Builtin.append_ #[t, t] ty #[v, v2]).run P w = .ok v' w' := by
 obtain ⟨hu, i, zv, hi, h1, h2, h3, h4⟩ := hE.und
 have hk := hc.pos
 have hmax : xs.length + ys.length ≤ 140737488355328 := Nat.le_trans (Nat.le_mul_of_pos_right _ hbs) hb
 obtain ⟨R, hp1, hp2⟩ := hU.perm
 have hwR := hw.perm hp1
 obtain ⟨a, cap2, rfl, hsrc⟩ := hS
 have hzk : zv.cells.size = k := by rw [← hE.len, ← h4]; simp
 have hzl : ∀ m, (Builtin.zeroCells zv.cells m).toList.length = m * k := by intro m; rw [Array.length_toList, size_zeroCells, hzk]
 by_cases hys : ys = []
 ·-- nothing is appended
  subst hys
  have hfc : ∀ w, (Builtin.firstCells i.size 0 (.slice a 0 cap2)).run P w = .ok #[] w := by
   intro w
   cases a with
   | none => exact run_firstCells_none w _ _ _ _
   | some a => exact run_firstCells_some (P := P) w i.size 0 a 0 cap2 [] sq sq
  rcases hO with ⟨rfl, rfl, rfl⟩ | ⟨b, cap, cs, rfl, rfl, hcl, htk, hle, hcm⟩
  ·refine ⟨.slice none 0 0, [], w, .inl ⟨rfl, rfl, rfl⟩, hw.perm (hp1.trans (hp2 []).symm), ?_⟩
   simp [Builtin.append_, run_underlying hu, sizeOf, typeInfo, hi, Builtin.lenOf, hfc]
  ·refine ⟨.slice (some ⟨b, 0, none⟩) xs.length cap, [(b, cs)], w, .inr ⟨b, cap, cs, by simp, rfl, hcl, by simpa using htk, by simpa using hle, hcm⟩, hw.perm (hp1.trans (hp2 _).symm), ?_⟩
   simp [Builtin.append_, run_underlying hu, sizeOf, typeInfo, hi, Builtin.lenOf, hfc, hle, storeCells]
 ·obtain ⟨sb, so, rfl, hrd⟩ := hsrc hys
  have hrd' : ∀ j u, (ys.flatMap enc)[j]? = some u → w.cell? ((⟨sb, so, none⟩ : Addr).add j) = some u := fun j u hj => by rw [fR]; exact hrd w hw j u hj
  have hyl : (ys.flatMap enc).length = ys.length * k := ji (fun x _ => hc.len x)
  have hyl' : (ys.flatMap enc).length = ys.length * i.size := by rw [hyl, h1]
  have hypos : 0 < ys.length := List.length_pos_iff.2 hys
  have hone : ∀ u ∈ ys.flatMap enc, u.oneCell' = true := by
   intro u hu
   obtain ⟨x, _, hx⟩ := List.mem_flatMap.1 hu
   exact List.all_eq_true.1 (hc.one x) u hx
  have hgrown : ∀ (b' cap' : Nat) (ds : List Value), ds.length = cap' * k → ds.take ((xs ++ ys).length * k) = (xs ++ ys).flatMap enc → (xs ++ ys).length ≤ cap' → cap' ≤ 9223372036854775807 →
    OwnSl k enc (.slice (some ⟨b', 0, none⟩) (xs ++ ys).length cap') (xs ++ ys) [(b', ds)] := fun b' cap' ds e1 e2 e3 e4 => .inr ⟨b', cap', ds, rfl, rfl, e1, e2, e3, e4⟩
  have hxl : (xs.flatMap enc).length = xs.length * k := ji (fun x _ => hc.len x)
  have hfl : (xs ++ ys).flatMap enc = xs.flatMap enc ++ ys.flatMap enc := by simp
  have hll : (xs ++ ys).length * k = (xs.flatMap enc ++ ys.flatMap enc).length := by simp only [List.length_append]; rw [hxl, hyl, Nat.add_mul]
  rcases hO with ⟨rfl, rfl, rfl⟩ | ⟨b, cap, cs, rfl, rfl, hcl, htk, hle, hcm⟩
  ·-- the first block
   have hb0 : ys.length * i.bytes ≤ 281474976710656 := by rw [h2]; simp at hb; omega
   have hr := run_append_nil (P := P) w t ty e i zv hu hi h3 ⟨sb, so, none⟩ ys.length cap2 (ys.flatMap enc) hyl' hrd' hypos (by simp at hmax; omega) hb0
   have hge := grownCap_ge w ys.length 0 e
   have hcm := grownCap_le_maxLen w ys.length 0 e (by simp only [maxLen]; simp at hmax; omega)
   simp only [maxLen] at hcm
   have hst := (hwR.drew).alloc ((ys.flatMap enc) ++ (Builtin.zeroCells zv.cells (grownCap w ys.length 0 e - ys.length)).toList) e
   refine ⟨_, [(w.heap.size, (ys.flatMap enc) ++ (Builtin.zeroCells zv.cells (grownCap w ys.length 0 e - ys.length)).toList)], _, hgrown _ (grownCap w ys.length 0 e) _ ?_ ?_ ?_ ?_, hst.perm (hp2 [(_, _)]).symm, ?_⟩
   ·rw [List.length_append, hyl, hzl, ← Nat.add_mul]; congr 1; omega
   ·rw [hfl, hll]; simp
   ·simpa using hge
   ·omega
   ·rw [hr]
    congr 2
    simp
  ·by_cases hroom : xs.length + ys.length ≤ cap
   ·-- room
    have hfit : xs.length * k + 0 + (ys.flatMap enc).length ≤ cs.length := by rw [hyl, hcl, Nat.add_zero, ← Nat.add_mul]; exact Nat.mul_le_mul_right _ hroom
    obtain ⟨w', hr, hst⟩ := ib (P := P) (ys.flatMap enc) cs (xs.length * k) 0 _ _ w hwR (Upd.here _) hone hfit
    have hfc := run_firstCells_some (P := P) w i.size ys.length ⟨sb, so, none⟩ ys.length cap2 (ys.flatMap enc) hyl' hrd'
    refine ⟨_, [(b, bY cs (xs.length * k) (ys.flatMap enc))], w', hgrown b cap _ ?_ ?_ ?_ hcm, hst.perm (hp2 [(_, _)]).symm, ?_⟩
    ·rw [gm _ _ _ (by simpa using hfit)]
     simp only [List.length_append, List.length_take, List.length_drop]; omega
    ·rw [gm _ _ _ (by simpa using hfit), htk, hfl, hll, ← List.append_assoc, List.take_left']
     rfl
    ·simpa using hroom
    ·have hr' : (storeCells ⟨b, xs.length * i.size, none⟩ (ys.flatMap enc)).run P w = .ok () w' := by rw [h1]; exact hr
     simp [Builtin.append_, run_underlying hu, sizeOf, typeInfo, hi, Builtin.lenOf, hroom, hfc, Addr.add_lit, hr']
   ·-- a new block
    have holds : ∀ j u, (xs.flatMap enc)[j]? = some u → w.cell? ((⟨b, 0, none⟩ : Addr).add j) = some u := by
     intro j u hj
     rw [fR, Nat.zero_add, hwR.cell (.here _) j]
     rw [← htk, List.getElem?_take] at hj
     split at hj
     ·exact hj
     ·cases hj
    have hr := run_append_grow (P := P) w t ty e i zv hu hi h3 ⟨b, 0, none⟩ xs.length cap (xs.flatMap enc) (by rw [hxl, h1]) holds ⟨sb, so, none⟩ ys.length cap2 (ys.flatMap enc) hyl' hrd' om om (growslice_fits om (by rw [h2]; exact hb))
    have hge := grownCap_ge w (xs.length + ys.length) cap e
    have hcm2 := grownCap_le_maxLen w (xs.length + ys.length) cap e (by simp only [maxLen]; omega)
    simp only [maxLen] at hcm2
    have hst := (hwR.drop.drew).alloc ((xs.flatMap enc) ++ (ys.flatMap enc) ++ (Builtin.zeroCells zv.cells (grownCap w (xs.length + ys.length) cap e - (xs.length + ys.length))).toList) e
    refine ⟨_, [(w.heap.size, (xs.flatMap enc) ++ (ys.flatMap enc) ++ (Builtin.zeroCells zv.cells (grownCap w (xs.length + ys.length) cap e - (xs.length + ys.length))).toList)], _, hgrown _ (grownCap w (xs.length + ys.length) cap e) _ ?_ ?_ ?_ ?_, hst.perm (hp2 [(_, _)]).symm, ?_⟩
    ·rw [List.length_append, List.length_append, hxl, hyl, hzl, ← Nat.add_mul, ← Nat.add_mul]; congr 1; omega
    ·rw [hfl, hll]; exact List.take_left' rfl
    ·simpa using hge
    ·omega
    ·rw [hr]
     congr 2
     ·simp
     ·congr 1
      apply Array.ext'; simp
theorem TL.append {α:Type}{k e bs t:Nat}{z:List Value}{enc:α→List Value}[hc:Cells k enc]{c:Call}{x y:Operand}{v v2:Value}{xs ys:List α}{ob:aj}{F:aj→aj}
  (hcl:c={callee:=.builtin .append,args:= #[x,y],argTypes:= #[t,t]}) (hx:ev E x=some v) (hy:ev E y=some v2) (hO:OwnSl k enc v xs ob) (hS:Src M w0 H0 H L enc v2 ys)
  [hE:Elz P t e k bs z] (hb:(xs.length+ys.length) * bs≤140737488355328) (hbs:Nat.blt 0 bs=true) (hU:Tl ob L F) (hd:cu dst n=true)
  (h:∀a' c' ob',OwnSl k enc (.slice a' (xs++ys).length c') (xs++ys) ob'→TL P n ops Q rest (cr dst (.slice a' (xs++ys).length c') E) (St M w0 H0 H (F ob'))):
  TL P n ops Q ({dst:=dst,op:=.call c,type:=ty,pos:=pos,after:=aft,guard:=none}::rest) E (St M w0 H0 H L):=by
 intro a w he hw
 refine cE rfl (fun K hK=>?_)
 obtain⟨v',ob',w',h1,h2,h3⟩:=zV (P:=P) (t:=t) (ty:=ty) hO hS hb (by simpa [Nat.blt_eq] using hbs) hU hw
 have hrun:(execOp a.eval {dst:=dst,op:=.call c,type:=ty,pos:=pos,after:=aft,guard:=none}).run P w= .ok (.value v') w':=by
  subst hcl
  simp [execOp,resolve,invoke,builtin,he.eval hx,he.eval hy,h3]
 unfold Oper.wp
 rw [hrun]
 obtain⟨a',c',rfl⟩:=h1.form
 exact hK _ _ (h a' c' ob' h1 _ _ (he.put hd) h2)
theorem St.pubO {α:Type}{k:Nat}{enc:α→List Value}[hc:Cells k enc]{v:Value}{xs:List α}{ob:aj}{F:aj→aj}(hO:OwnSl k enc v xs ob)(hU:Tl ob L F)(hM:∀p∈ob,p.1∉M){w:World}(hw:St M w0 H0 H L w):
  ∃H',H.le H'∧RdSl H' k enc v xs∧St M w0 H0 H' (F []) w:=by
 obtain⟨R,hp1,hp2⟩:=hU.perm
 have hwR:=hw.perm hp1
 rcases hO with ⟨rfl,rfl,rfl⟩ | ⟨b,cap,cs,rfl,rfl,hcl,htk,hle,hcm⟩
 ·exact⟨H,Hp.le.refl H,⟨⟨_,_,rfl⟩,by simp,fun h=>absurd rfl h,fun i x hx=>by simp at hx,fun a n c _=>by simp⟩,hwR.perm (hp2 []).symm⟩
 ·have h1:=hwR.publish (hM (b,cs) sq)
  refine⟨H.add b cs,hwR.le_add,⟨⟨_,_,rfl⟩,by omega,fun _=>⟨_,rfl⟩,fun i x hx j u hu=>?_,fun a n c e=>by injection e with _ _ e;omega⟩,h1.perm (hp2 []).symm⟩
  have h2:=nh (k:=k) (fun x _=>hc.len x) i x hx j u hu
  rw [← htk,List.getElem?_take] at h2
  simp only [blk,off,Hp.add,if_true,Nat.zero_add]
  split at h2
  ·exact h2
  ·cases h2
end
section
variable {P:Program}{n:Nat}{ops:Array Oper}{Ri:World→Prop}{Q:Exit→Act→World→Prop}{E:Env}{M:List Nat}{w0:World}{H0 H:Hp}{L:aj}
theorem TL.pubO {α:Type}{k:Nat}{enc:α→List Value}[hc:Cells k enc]{v:Value}{xs:List α}{ob:aj}{F:aj→aj}{l:List Oper}(hO:OwnSl k enc v xs ob)(hU:Tl ob L F)(hM:∀p∈ob,p.1∉M)
  (h:∀H',H.le H'→RdSl H' k enc v xs→TL P n ops Q l E (St M w0 H0 H' (F []))):TL P n ops Q l E (St M w0 H0 H L):=by
 intro a w he hw
 obtain⟨H',h1,h2,h3⟩:=hw.pubO hO hU hM
 exact h H' h1 h2 a w he h3
theorem TF.pubO {α:Type}{k:Nat}{enc:α→List Value}[hc:Cells k enc]{v:Value}{xs:List α}{ob:aj}{F:aj→aj}{l:List (Nat×Oper)}(hO:OwnSl k enc v xs ob)(hU:Tl ob L F)(hM:∀p∈ob,p.1∉M)
  (h:∀H',H.le H'→RdSl H' k enc v xs→TF P n ops Ri Q l E (St M w0 H0 H' (F []))):TF P n ops Ri Q l E (St M w0 H0 H L):=by
 intro a w he hw
 obtain⟨H',h1,h2,h3⟩:=hw.pubO hO hU hM
 exact h H' h1 h2 a w he h3
theorem TX.pubO {α:Type}{k:Nat}{enc:α→List Value}[hc:Cells k enc]{v:Value}{xs:List α}{ob:aj}{F:aj→aj}{q:Act→World→Prop}(hO:OwnSl k enc v xs ob)(hU:Tl ob L F)(hM:∀p∈ob,p.1∉M)
  (h:∀H',H.le H'→RdSl H' k enc v xs→TX n q E (St M w0 H0 H' (F []))):TX n q E (St M w0 H0 H L):=by
 intro a w he hw
 obtain⟨H',h1,h2,h3⟩:=hw.pubO hO hU hM
 exact h H' h1 h2 a w he h3
theorem TC.pubO {α:Type}{k:Nat}{enc:α→List Value}[hc:Cells k enc]{v:Value}{xs:List α}{ob:aj}{F:aj→aj}{c:Code}(hO:OwnSl k enc v xs ob)(hU:Tl ob L F)(hM:∀p∈ob,p.1∉M)
  (h:∀H',H.le H'→RdSl H' k enc v xs→TC P n c Q E (St M w0 H0 H' (F []))):TC P n c Q E (St M w0 H0 H L):=by
 intro a w he hw
 obtain⟨H',h1,h2,h3⟩:=hw.pubO hO hU hM
 exact h H' h1 h2 a w he h3
theorem bE {α:Type}{c:Call}{t e k k':Nat}{enc:α→List Value}{x:Operand}{v:Value}{xs:List α}{ob:aj}{C:World→Prop}(hc:c={callee:=.builtin .len,args:= #[x],argTypes:= #[t]})(hx:ev E x=some v)(h:OwnSl k' enc v xs ob)[hel:El P t e k]:
  PR P E C (.call c) (.int .i64 xs.length):=by
 rcases h with ⟨rfl,rfl,_⟩ | ⟨b,cap,cs,rfl,_⟩
 ·exact ec hc hx
 ·exact ec hc hx
end
end Go.Sx
namespace Go.Sx
open Go
section
variable {P:Program}{n:Nat}{ops:Array Oper}{Q:Exit→Act→World→Prop}{E:Env}{M:List Nat}{w0:World}{H0 H:Hp}{L:aj}{C:World→Prop}{rest:List Oper}{dst:Option Nat}{ty:TypeId}{pos:String}{aft:Array Edge}
theorem aW {ι:Type}{c:Code}(V:ι→Value→aj→Hp→Env)(K:Env)(L:ι→Value→aj→Hp→World→Prop)(I:ι→Value→aj→Hp→Prop)(μ:ι→Nat)(i:ι)(v:Value)(ob:aj)(H1:Hp)(h0:Sub (V i v ob H1++K) E)(hi:I i v ob H1)(hC:∀w,C w→L i v ob H1 w)
  (round:∀i v ob H1,I i v ob H1→TC P n c (Exit.then (fun a w=>∃j v' ob' H',I j v' ob' H'∧EOk n (V j v' ob' H'++K) a∧L j v' ob' H' w∧μ j<μ i) Q) (V i v ob H1++K) (L i v ob H1)):TC P n (.loop c) Q E C:=
 TC.loop (ι:=ι×Value×aj×Hp) (V:=fun i=>V i.1 i.2.1 i.2.2.1 i.2.2.2) (K:=K) (L:=fun i=>L i.1 i.2.1 i.2.2.1 i.2.2.2) (I:=fun i=>I i.1 i.2.1 i.2.2.1 i.2.2.2) (μ:=fun i=>μ i.1) (i:=(i,v,ob,H1)) h0 hi hC
  (fun i hI a w he hw=>Code.wp_mono (fun e a' w' hq=>by
   cases e with
   | normal=>obtain⟨j,v',ob',H',h1,h2,h3,h4⟩:=hq;exact⟨(j,v',ob',H'),h1,h2,h3,h4⟩
   | exit id=>exact hq
   | goto l=>exact hq
   | ret=>exact hq
   | panic ch=>exact hq
   | outgrown=>exact hq) (round i.1 i.2.1 i.2.2.1 i.2.2.2 hI a w he hw))
theorem aH {ι:Type}{V:ι→Value→aj→Hp→Env}{L:ι→Value→aj→Hp→World→Prop}{I:ι→Value→aj→Hp→Prop}{μ:ι→Nat}{i:ι}{E0:Env}(j:ι)(v':Value)(ob':aj)(H':Hp)(hI:I j v' ob' H')(hs:Sub (V j v' ob' H'++E0) E)(hC:∀w,C w→L j v' ob' H' w)(hm:μ j<μ i):
  TX n (Exit.then (fun a w=>∃j v' ob' H',I j v' ob' H'∧EOk n (V j v' ob' H'++E0) a∧L j v' ob' H' w∧μ j<μ i) Q .normal) E C:=fun a w he hw=>⟨j,v',ob',H',hI,he.sub hs,hC w hw,hm⟩
theorem St.dropN {M:List Nat}{w0 w:World}{H0 H:Hp}{A L:aj}(h:St M w0 H0 H (A++L) w):St M w0 H0 H L w:=by
 induction A with
 | nil=>exact h
 | cons x A ih=>exact ih h.drop
end
end Go.Sx
namespace Go.Sx
open Go
def Ft (w0:World)(H0:Hp)(Φ:Value→Hp→aj→Prop)(e:Ending)(w:World):Prop:=∃v H' ob,e= .returned v∧St [] w0 H0 H' ob w∧Φ v H' ob
def FnO (P:Program)(f:FuncId)(args:List Value)(H:Hp)(Φ:Value→Hp→aj→Prop):Prop:=∀w,St [] w H H [] w→Calls P f args.toArray w (Ft w H Φ)
section
variable {P:Program}{n:Nat}{ops:Array Oper}{Q:Exit→Act→World→Prop}{E:Env}{M:List Nat}{w0:World}{H0 H:Hp}{L:aj}{C:World→Prop}{rest:List Oper}{dst:Option Nat}{op:Op}{ty:TypeId}{pos:String}{aft:Array Edge}
theorem St.pastO {w w':World}{H':Hp}{ob:aj}(h:St M w0 H0 H L w)(h':St [] w H H' ob w'):St M w0 H0 H' (L++ob) w':=by
 have hob:∀p∈ob,w.heap.size≤p.1:=fun p hp=>(h'.mine p hp).resolve_left sq
 have hL:∀p∈L,p.1<w.heap.size:=fun p hp=>h.lt hp
 refine⟨h'.os.trans h.os,h'.tape.trans h.tape,h'.output.trans h.output,Nat.le_trans h.size h'.size,fun b hb hM=>?_,h'.hp,fun p hp=>?_,fun p hp o=>?_,?_,fun p hp=>?_,h.fr.trans h'.fr h.size⟩
 ·exact(h'.old b (by have:=h.size;omega) sq).trans (h.old b hb hM)
 ·rcases List.mem_append.1 hp with hp | hp
  ·obtain⟨t,ht⟩:=h.own p hp
   exact⟨t,(h'.old _ (cO ht) sq).trans ht⟩
  ·exact h'.own p hp
 ·rcases List.mem_append.1 hp with hp | hp
  ·cases ho:H' p.1 o with
   | none=>rfl
   | some v=>
    have:=h'.fr.2 _ _ _ ho (h.sep p hp o)
    have:=hL p hp
    omega
  ·exact h'.sep p hp o
 ·rw [List.map_append,List.nodup_append]
  refine⟨h.nd,h'.nd,fun a ha b hb e=>?_⟩
  obtain⟨p,hp,rfl⟩:=List.mem_map.1 ha
  obtain⟨q,hq,rfl⟩:=List.mem_map.1 hb
  have:=hL p hp
  have:=hob q hq
  omega
 ·rcases List.mem_append.1 hp with hp | hp
  ·exact h.mine p hp
  ·exact .inr (Nat.le_trans h.size (hob p hp))
theorem da {f:FuncId}{args:List Value}{Φ:Value→Hp→aj→Prop}(hE:cA P E op f args)(hF:FnO P f args H Φ)(hd:cu dst n=true)
  (h:∀v H' ob,H.le H'→Φ v H' ob→TL P n ops Q rest (cr dst v E) (St M w0 H0 H' (L++ob))):
  TL P n ops Q ({dst:=dst,op:=op,type:=ty,pos:=pos,after:=aft,guard:=none}::rest) E (St M w0 H0 H L):=by
 intro a w he hw
 refine cE rfl (fun K hK=>?_)
 unfold Oper.wp
 rw [hE n a w _ rfl he]
 refine(hF w (St.pass1 (L1:=[]) (L2:=L) hw)).mono ?_
 rintro e w' ⟨v,H',ob,rfl,hst,hΦ⟩
 exact hK _ _ (h v H' ob hst.fr.1 hΦ _ _ (he.put hd) (hw.pastO hst))
theorem jD {t k:TypeId}{x:Operand}{b o:Nat}{cs:List Value}(hx:ev E x=some (.pointer (some ⟨b,o,none⟩)))(hL:InL b cs L)[ht:Ty P t true k](hk:((cs.drop o).take k).length=k):
  PR P E (St M w0 H0 H L) (.load t x) (.agg ((cs.drop o).take k).toArray):=pr_ownP hx hL hk.symm rfl
theorem rT {α:Type}{t k k' j:Nat}{enc:α→List Value}{x:Operand}{v:Value}{l:List α}{i:Nat}{a:α}(h:RdSl H k enc v l)(ha:l[i]? =some a)(hx:ev E x=some (.pointer (some ⟨blk v,off v+i * k+j,none⟩)))[ht:Ty P t true k'](hk:(((enc a).drop j).take k').length=k'):
  PR P E (St M w0 H0 H L) (.load t x) (.agg (((enc a).drop j).take k').toArray):=pr_elP h ha hx hk rfl
theorem FnO.enter {f:FuncId}{args:List Value}{Φ:Value→Hp→aj→Prop}{fn:Func}{c:Code}
  (hf:P.funcs[f]? =some fn) (hn:fn.ntmps=n) (hb:fn.body=some c) (hl:Nat.ble args.length n=true)
  (h:∀w0,TC P n c (bodyPost P fn (Ft w0 H Φ)) (jU 0 args) (St [] w0 H H [])):FnO P f args H Φ:=by
 intro w hw
 refine calls_of_wp hf hb (h w _ w ⟨?_,rfl,fun t v ht=>?_⟩ hw)
 ·have:=Nat.le_of_ble_eq_true hl
  simp [hn]
  omega
 ·have h1:=(kx args 0 t v ht).2
  simp only [Nat.sub_zero] at h1
  have h2:t<args.length:=(List.getElem?_eq_some_iff.1 h1).1
  rw [Array.getElem?_append_left (by simpa using h2)]
  simpa using h1
theorem ef {fn:Func}{Φ:Value→Hp→aj→Prop}{v:Value}{ob:aj}{F:aj→aj}{e:Exit}(he:e= .normal∨e= .ret)(hr:∀a w,EOk n E a→St [] w0 H0 H L w→(results fn a.tmps).run P w= .ok v w)(hU:Tl ob L F)(h:Φ v H ob):
  TX n (bodyPost P fn (Ft w0 H0 Φ) e) E (St [] w0 H0 H L):=
 TX.end_ e he hr fun w hw=>by
  obtain⟨R,hp,_⟩:=hU.perm
  have h1:=hw.perm (hp.trans List.perm_append_comm)
  exact⟨v,H,ob,rfl,h1.dropN,h⟩
end
end Go.Sx
namespace Go.Sx
open Go
section
variable {P:Program}{n:Nat}{ops:Array Oper}{Ri:World→Prop}{Q:Exit→Act→World→Prop}{E:Env}{M:List Nat}{w0:World}{H0 H:Hp}{L:aj}{C:World→Prop}{rest:List Oper}{dst:Option Nat}{op:Op}{ty:TypeId}{pos:String}{aft:Array Edge}
theorem TL.gd {j s:Nat}{b:Bool}(hj:gr ops j=some s)(hb:lk E s=some (.bool b))(h:TL P n ops Q ({dst:=dst,op:=op,type:=ty,pos:=pos,after:=aft,guard:=none}::rest) E C):
  TL P n ops Q ({dst:=dst,op:=op,type:=ty,pos:=pos,after:=aft,guard:=some (j,b)}::rest) E C:=by
 intro a w he hw
 have h1:=h a w he hw
 have hy:=d6 he hj hb
 simp only [wpW] at h1 ⊢
 simp only [Region.wanted,hy,BEq.rfl,if_true] at h1 ⊢
 exact h1
theorem zU {t e k bs:Nat}{z ds:List Value}{len:Nat}{parts:Array (Nat×Operand)}{vs:List (Nat×Value)}(hv:iK E parts.toList=some vs)[he:Elz P t e k bs z](hlen:Nat.ble (len * k) 16777216=true)
  (hf:pI (fun i=>some (i * k,k)) (ic len z) vs=some ds) {a:Act} {w:World} (hE:EOk n E a):
  (execOp a.eval {dst:=dst,op:=.buildSlice t len parts,type:=ty,pos:=pos,after:=aft,guard:=none}).run P w= .ok (.value (.slice (some ⟨w.heap.size,0,none⟩) len len)) (w.alloc (.cells ds.toArray e)):=by
 obtain⟨hu,i,v,hi,h1,h2,h3,h4⟩:=he.und
 have hk:=he.len
 have hl:=Nat.le_of_ble_eq_true hlen
 have hparts:(parts.map fun(x:Nat×Operand)=>(x.1,a.eval x.2)).toList=vs:=by
  rw [Array.toList_map];exact hE.parts hv
 have hkz:v.cells.size=k:=by rw [← hk,← h4];simp
 have hm:madeCells v.cells (len * k)=(ic len z).toArray:=by
  apply Array.ext'
  rw [← hkz,ik,h4]
 have hfill:Instr.fill (fun i=>some (i * k,k)) (madeCells v.cells (len * k)) vs=some ds.toArray:=qe _ vs _ ds (by rw [hm];exact hf)
 have hsz:(sizeOf e).run P w= .ok k w:=by simp [sizeOf,typeInfo,hi,h1]
 have hz0:(zeroValue e).run P w= .ok v w:=by simp [zeroValue,typeInfo,hi,h3]
 have hn:¬len * k>2 ^ 24:=by omega
 have hfill0:=hfill
 unfold madeCells at hfill
 by_cases h0:len * k=0
 ·have hfill':Instr.fill (fun i=>some (i * k,k)) #[] vs=some ds.toArray:=by
   rw [h0,Array.range_zero'] at hfill
   simpa using hfill
  have h0':len=0∨k=0:=Nat.mul_eq_zero.1 h0
  simp [execOp,Instr.buildSlice,run_underlying hu,hsz,h0,h0',hE.parts hv,hfill',newRow,Array.range_zero']
 ·simp [execOp,Instr.buildSlice,run_underlying hu,hsz,h0,hz0,hn,hE.parts hv,hfill,newRow]
theorem aF {rest:List (Nat×Oper)}{t e k bs:Nat}{z ds:List Value}{len:Nat}{parts:Array (Nat×Operand)}{vs:List (Nat×Value)}(hv:iK E parts.toList=some vs)[he:Elz P t e k bs z](hlen:Nat.ble (len * k) 16777216=true)
  (hf:pI (fun i=>some (i * k,k)) (ic len z) vs=some ds) (hd:cu dst n=true)
  (h:∀b,TF P n ops Ri Q rest (cr dst (.slice (some ⟨b,0,none⟩) len len) E) (St M w0 H0 H ((b,ds)::L))):
  TF P n ops Ri Q ((3,{dst:=dst,op:=.buildSlice t len parts,type:=ty,pos:=pos,after:=aft,guard:=none})::rest) E (St M w0 H0 H L):=by
 refine TF.ext rfl fun a w hE hw=>?_
 unfold Oper.wp
 rw [zU hv hlen hf hE]
 exact⟨Ext.alloc _ _,h _ _ _ (hE.put hd) (hw.alloc ds e)⟩
end
end Go.Sx
namespace Go.Sx
open Go
def vX (K:List Nat)(w0:World)(H0:Hp)(Φ:Value→Hp→aj→Prop)(e:Ending)(w:World):Prop:=∃v H' L',e= .returned v∧St K w0 H0 H' L' w∧Φ v H' L'
def FnX (P:Program)(f:FuncId)(args:List Value)(H:Hp)(L1:aj)(Φ:Value→Hp→aj→Prop):Prop:=∀w,St (keys L1) w H H L1 w→Calls P f args.toArray w (vX (keys L1) w H Φ)
section
variable {P:Program}{n:Nat}{ops:Array Oper}{Q:Exit→Act→World→Prop}{E:Env}{M:List Nat}{w0:World}{H0 H:Hp}{L:aj}{C:World→Prop}{rest:List Oper}{dst:Option Nat}{op:Op}{ty:TypeId}{pos:String}{aft:Array Edge}
theorem St.pastX {L1 L1' L2:aj}{w w':World}{H':Hp}(h:St M w0 H0 H (L1++L2) w)(h':St (keys L1) w H H' L1' w'):St M w0 H0 H' (L1'++L2) w':=by
 have hnd:=h.nd
 rw [List.map_append,List.nodup_append] at hnd
 have hmine:∀p∈L1',p.1∈M∨w0.heap.size≤p.1:=fun p hp=>by
  rcases h'.mine p hp with hm | hm
  ·obtain⟨q,hq,he⟩:=List.mem_map.1 hm
   have:=h.mine q (List.mem_append_left _ hq)
   rwa [he] at this
  ·have:=h.size;right;omega
 have hL2:∀p∈L2,p.1<w.heap.size:=fun p hp=>h.lt (List.mem_append_right _ hp)
 have hL2k:∀p∈L2,p.1∉keys L1:=fun p hp hm=>hnd.2.2 _ hm _ (List.mem_map.2 ⟨p,hp,rfl⟩) rfl
 refine⟨h'.os.trans h.os,h'.tape.trans h.tape,h'.output.trans h.output,Nat.le_trans h.size h'.size,fun b hb hM=>?_,h'.hp,fun p hp=>?_,fun p hp o=>?_,?_,fun p hp=>?_,h.fr.trans h'.fr h.size⟩
 ·have hnk:b∉keys L1:=by
   intro hm
   obtain⟨p,hp,rfl⟩:=List.mem_map.1 hm
   rcases h.mine p (List.mem_append_left _ hp) with hx | hx
   ·exact hM hx
   ·omega
  exact(h'.old b (by have:=h.size;omega) hnk).trans (h.old b hb hM)
 ·rcases List.mem_append.1 hp with hp | hp
  ·exact h'.own p hp
  ·obtain⟨t,ht⟩:=h.own p (List.mem_append_right _ hp)
   exact⟨t,(h'.old _ (cO ht) (hL2k p hp)).trans ht⟩
 ·rcases List.mem_append.1 hp with hp | hp
  ·exact h'.sep p hp o
  ·cases ho:H' p.1 o with
   | none=>rfl
   | some v=>
    have h1:=h'.fr.2 _ _ _ ho (h.sep p (List.mem_append_right _ hp) o)
    have h2:=hL2 p hp
    omega
 ·rw [List.map_append,List.nodup_append]
  refine⟨h'.nd,hnd.2.1,fun a ha b hb e=>?_⟩
  obtain⟨p,hp,rfl⟩:=List.mem_map.1 ha
  obtain⟨q,hq,rfl⟩:=List.mem_map.1 hb
  rcases h'.mine p hp with hm | hm
  ·exact hL2k q hq (e▸hm)
  ·have:=hL2 q hq;omega
 ·rcases List.mem_append.1 hp with hp | hp
  ·exact hmine p hp
  ·exact h.mine p (List.mem_append_right _ hp)
theorem dY {f:FuncId}{args:List Value}{L1 L2:aj}{Φ:Value→Hp→aj→Prop}(hE:cA P E op f args)(hF:FnX P f args H L1 Φ)(hd:cu dst n=true)
  (h:∀v H' L1',H.le H'→Φ v H' L1'→TL P n ops Q rest (cr dst v E) (St M w0 H0 H' (L1'++L2))):
  TL P n ops Q ({dst:=dst,op:=op,type:=ty,pos:=pos,after:=aft,guard:=none}::rest) E (St M w0 H0 H (L1++L2)):=by
 intro a w he hw
 refine cE rfl (fun K hK=>?_)
 unfold Oper.wp
 rw [hE n a w _ rfl he]
 refine(hF w hw.pass1).mono ?_
 rintro e w' ⟨v,H',L1',rfl,hst,hΦ⟩
 exact hK _ _ (h v H' L1' hst.fr.1 hΦ _ _ (he.put hd) (hw.pastX hst))
theorem ge {f:FuncId}{args:List Value}{L1:aj}{Φ:Value→Hp→aj→Prop}(hE:cA P E op f args)(hF:FnX P f args H L1 Φ)(hd:cu dst n=true)
  (h:∀v H' L1',H.le H'→Φ v H' L1'→TL P n ops Q rest (cr dst v E) (St M w0 H0 H' L1')):
  TL P n ops Q ({dst:=dst,op:=op,type:=ty,pos:=pos,after:=aft,guard:=none}::rest) E (St M w0 H0 H L1):=by
 have:=dY (M:=M) (w0:=w0) (H0:=H0) (ops:=ops) (Q:=Q) (rest:=rest) (ty:=ty) (pos:=pos) (aft:=aft) (L2:=[]) hE hF hd (fun v H' L1' h1 h2=>by rw [List.append_nil];exact h v H' L1' h1 h2)
 rwa [List.append_nil] at this
theorem FnX.mono {f:FuncId}{args:List Value}{L1:aj}{Φ Φ':Value→Hp→aj→Prop}(h:FnX P f args H L1 Φ)(hi:∀v H' L',Φ v H' L'→Φ' v H' L'):FnX P f args H L1 Φ':=fun w hw=>(h w hw).mono (by
 rintro e w' ⟨v,H',L',rfl,h1,h2⟩
 exact⟨v,H',L',rfl,h1,hi _ _ _ h2⟩)
theorem FnX.enter {f:FuncId}{args:List Value}{L1:aj}{Φ:Value→Hp→aj→Prop}{fn:Func}{c:Code}
  (hf:P.funcs[f]? =some fn) (hn:fn.ntmps=n) (hb:fn.body=some c) (hl:Nat.ble args.length n=true)
  (h:∀w0,TC P n c (bodyPost P fn (vX (keys L1) w0 H Φ)) (jU 0 args) (St (keys L1) w0 H H L1)):FnX P f args H L1 Φ:=by
 intro w hw
 refine calls_of_wp hf hb (h w _ w ⟨?_,rfl,fun t v ht=>?_⟩ hw)
 ·have:=Nat.le_of_ble_eq_true hl
  simp [hn]
  omega
 ·have h1:=(kx args 0 t v ht).2
  simp only [Nat.sub_zero] at h1
  have h2:t<args.length:=(List.getElem?_eq_some_iff.1 h1).1
  rw [Array.getElem?_append_left (by simpa using h2)]
  simpa using h1
theorem aZ {fn:Func}{K:List Nat}{Φ:Value→Hp→aj→Prop}{v:Value}{L1:aj}{e:Exit}(he:e= .normal∨e= .ret)(hr:∀a w,EOk n E a→St K w0 H0 H L w→(results fn a.tmps).run P w= .ok v w)
  (hL:∀w,St K w0 H0 H L w→St K w0 H0 H L1 w) (h:Φ v H L1):TX n (bodyPost P fn (vX K w0 H0 Φ) e) E (St K w0 H0 H L):=
 TX.end_ e he hr fun w hw=>⟨v,H,L1,rfl,hL w hw,h⟩
end
end Go.Sx
namespace Go.Sx
open Go
section
variable {P:Program}{n:Nat}{ops:Array Oper}{Q:Exit→Act→World→Prop}{E:Env}{M:List Nat}{w0:World}{H0 H:Hp}{L:aj}{C:World→Prop}{rest:List Oper}{dst:Option Nat}{op:Op}{ty:TypeId}{pos:String}{aft:Array Edge}
theorem El.elem {t e k:Nat}(h:El P t e k):P.underlying t=some (.slice (P.elem t))∧(∀w,(sizeOf (P.elem t)).run P w= .ok k w):=by
 obtain⟨hu,inf,hi,hs⟩:=h.und
 have he:P.elem t=e:=by simp [Program.elem,hu]
 rw [he]
 exact⟨hu,fun w=>by simp [sizeOf,typeInfo,hi,hs]⟩
theorem vn {t e k:Nat}{x y:Operand}{a:Option Addr}{m c:Nat}{kd:IntKind}{h:Int}(hx:ev E x=some (.slice a m c))(hy:ev E y=some (.int kd h))[hel:El P t e k](h0:0≤h)(h1:h≤c):
  PR P E C (.slice t x none (some y) none) (sliced a 0 h.toNat c k):=by
 intro n ac w o ho he hw
 unfold execOp
 rw [ho]
 obtain⟨e1,e2⟩:=hel.elem
 simp [he.eval hx,he.eval hy,run_sliceAt_slice (P:=P) w t _ _ _ _ e1,run_slice_h (P:=P) w t a m c e1 kd h h0 h1,e2,Result.andThen]
theorem Ch {t e k:Nat}{x y:Operand}{a:Option Addr}{m c:Nat}{kd:IntKind}{h:Int}(hx:ev E x=some (.slice a m c))(hy:ev E y=some (.int kd h))[hel:El P t e k](h0:0≤h)(h1:h≤m):
  PR P E C (.slice t x (some y) none none) (sliced a h.toNat m c k):=by
 intro n ac w o ho he hw
 unfold execOp
 rw [ho]
 obtain⟨e1,e2⟩:=hel.elem
 simp [he.eval hx,he.eval hy,run_sliceAt_slice (P:=P) w t _ _ _ _ e1,run_slice_l (P:=P) w t a m c e1 kd h h0 h1,e2,Result.andThen]
theorem RdSl.sliced {α:Type}{k:Nat}{enc:α→List Value}{a:Option Addr}{m c:Nat}{l:List α}{i j:Nat}(h:RdSl H k enc (.slice a m c) l)(hij:i≤j)(hj:j≤l.length):RdSl H k enc (Go.sliced a i j c k) ((l.take j).drop i):=by
 have hc:=h.room a m c rfl
 have hlen:((l.take j).drop i).length=j - i:=by simp;omega
 have hmax:=h.max
 by_cases he:i=j
 ·subst he
  have:(l.take i).drop i=[]:=List.drop_eq_nil_of_le (by simp;omega)
  rw [this]
  refine⟨⟨(if c=i then a else a.map (·.add (i * k))),c - i,by simp [Go.sliced]⟩,by simp,fun h=>absurd rfl h,fun i x hx=>by simp at hx,fun a n c _=>by simp⟩
 ·have hne:l≠[]:=by intro e;subst e;simp at hj;omega
  obtain⟨cap,e⟩:=h.addr hne
  injection e with e1 e2 e3
  subst e3
  have hci:¬c=i:=by omega
  have hs:Go.sliced a i j c k= .slice (some ⟨blk (.slice a m c),off (.slice a m c)+i * k,none⟩) (j - i) (c - i):=by
   unfold Go.sliced
   rw [if_neg hci]
   generalize blk (.slice a m c)=B at *
   generalize off (.slice a m c)=O at *
   subst e1
   simp [Addr.add]
  refine⟨⟨_,_,by rw [hs,hlen]⟩,by omega,fun _=>⟨_,by rw [hs,hlen];rfl⟩,fun q x hx u v hv=>?_,fun a' n' c' e'=>?_⟩
  ·rw [List.getElem?_drop,List.getElem?_take] at hx
   split at hx
   ·have:=h.get (i+q) x hx u v hv
    rw [hs]
    show H (blk (.slice a m c)) (off (.slice a m c)+i * k+q * k+u)=some v
    rw [Nat.add_mul] at this
    rw [Nat.add_assoc (off _)];exact this
   ·cases hx
  ·rw [hs] at e'
   injection e' with _ _ e'
   omega
theorem pr_strH {t:TypeId}{x z:Operand}{l:List UInt8}{k2:IntKind}{j:Int}(hx:ev E x=some (gs l))(hz:ev E z=some (.int k2 j))[hu:Und P t .string](h1:0≤j)(h2:j≤l.length):
  PR P E C (.slice t x none (some z) none) (gs (l.take j.toNat)):=by
 intro n ac w o ho he hw
 unfold execOp
 rw [ho]
 have hsz:j≤(ByteArray.mk l.toArray).size:=by simpa [ByteArray.size] using h2
 have e:=run_slice_string_h (P:=P) w t ⟨l.toArray⟩ hu.out k2 j h1 hsz
 simp [he.eval hx,he.eval hz,gs,run_sliceAt_string (P:=P) w t _ _ _ _ hu.out,e,ByteArray.extract_mk]
theorem pr_strL {t:TypeId}{x y:Operand}{l:List UInt8}{k1:IntKind}{i:Int}(hx:ev E x=some (gs l))(hy:ev E y=some (.int k1 i))[hu:Und P t .string](h0:0≤i)(h2:i≤l.length):
  PR P E C (.slice t x (some y) none none) (gs (l.drop i.toNat)):=by
 intro n ac w o ho he hw
 unfold execOp
 rw [ho]
 have hsz:i≤(ByteArray.mk l.toArray).size:=by simpa [ByteArray.size] using h2
 have e:=run_slice_string_l (P:=P) w t ⟨l.toArray⟩ hu.out k1 i h0 hsz
 have hs2:(ByteArray.mk l.toArray).size=l.length:=by simp [ByteArray.size]
 simp [he.eval hx,he.eval hy,gs,run_sliceAt_string (P:=P) w t _ _ _ _ hu.out,e,ByteArray.extract_mk,hs2]
 exact List.take_of_length_le sq
end
end Go.Sx
namespace Go.Sx
open Go
def U8.cells (c:UInt8):List Value:=[.int .u8 (c.toNat:Int)]
instance :Cells 1 U8.cells:=⟨fun _=>rfl,by decide,fun _=>rfl⟩
theorem BG:∀s:List UInt8,s.flatMap U8.cells=s.map fun b=>Value.int .u8 b.toNat
 | []=>rfl
 | c::s=>by simp [U8.cells,BG s]
section
variable {P:Program}{n:Nat}{ops:Array Oper}{Q:Exit→Act→World→Prop}{E:Env}{M:List Nat}{w0:World}{H0 H:Hp}{L:aj}{C:World→Prop}{rest:List Oper}{dst:Option Nat}{op:Op}{ty:TypeId}{pos:String}{aft:Array Edge}
theorem sK:∀(l:List UInt8) (s:ByteArray),(l.map fun b=>(b.toNat:Int)).foldl (fun r n=>r.push (UInt8.ofNat n.toNat)) s=s++⟨l.toArray⟩
 | [],s=>by
  apply ByteArray.ext
  simp
 | c::l,s=>by
  simp only [List.map_cons,List.foldl_cons]
  rw [sK l]
  apply ByteArray.ext
  apply Array.ext'
  simp
theorem yY {s t e k bs:Nat}{z:List Value}{x:Operand}{v:Value}{xs:List UInt8}{ob:aj}{F:aj→aj}(hx:ev E x=some v)(hO:OwnSl 1 U8.cells v xs ob)(hU:Tl ob L F)[hE:Elz P s e k bs z][he8:Und P e (.int .u8)][ht:Und P t .string]:
  PR P E (St M w0 H0 H L) (.convert s t x) (gs xs):=by
 intro n ac w o ho he hw
 unfold execOp
 rw [ho]
 obtain⟨hu,_⟩:=hE.und
 simp only [he.eval hx]
 obtain⟨R,hp1,_⟩:=hU.perm
 have hwR:=hw.perm hp1
 rcases hO with ⟨rfl,rfl,rfl⟩ | ⟨b,cap,cs,rfl,rfl,hcl,htk,hle,hcm⟩
 ·have h:=run_convert_bytes_string (P:=P) w s t e none 0 0 hu he8.out ht.out
  have h2:(Conv.bytesToString (.slice none 0 0)).run P w= .ok (gs []) w:=by simp [Conv.bytesToString,gs];rfl
  simp [h,h2]
 ·have h:=run_convert_bytes_string (P:=P) w s t e (some ⟨b,0,none⟩) xs.length cap hu he8.out ht.out
  have hld:(loadCells ⟨b,0,none⟩ xs.length).run P w= .ok ((xs.map fun b=>(b.toNat:Int)).map (Value.int .u8)).toArray w:=by
   have hlen:xs.length=((xs.map fun b=>(b.toNat:Int)).map (Value.int .u8)).length:=by simp
   rw [hlen]
   refine run_loadCells_list (P:=P) w ⟨b,0,none⟩ _ (fun j v hj=>?_)
   rw [fR,Nat.zero_add,hwR.cell (.here _) j]
   have hj2:(xs.flatMap U8.cells)[j]? =some v:=by rw [BG];simpa using hj
   rw [← htk,List.getElem?_take] at hj2
   split at hj2
   ·exact hj2
   ·cases hj2
  have h2:=run_bytesToString (P:=P) w ⟨b,0,none⟩ xs.length cap _ hld
  rw [sK] at h2
  have h3:(ByteArray.empty++⟨xs.toArray⟩:ByteArray)=⟨xs.toArray⟩:=by
   apply ByteArray.ext;simp
  rw [h3] at h2
  simp [h,h2,gs]
def ogb (ob:aj):Nat:=(ob.head?.map (·.1)).getD 0
theorem aY {α:Type}{t e k:Nat}{enc:α→List Value}{x y:Operand}{v:Value}{xs:List α}{ob:aj}{kd:IntKind}{i:Int}(hx:ev E x=some v)(hy:ev E y=some (.int kd i))(hO:OwnSl k enc v xs ob)[hel:El P t e k](h0:0≤i)(h1:i<xs.length):
  PR P E C (.indexAddr t x y) (.pointer (some ⟨ogb ob,i.toNat * k,none⟩)):=by
 rcases hO with ⟨rfl,rfl,rfl⟩ | ⟨b,cap,cs,rfl,rfl,hcl,htk,hle,hcm⟩
 ·simp at h1;omega
 ·have:=ie (P:=P) (E:=E) (C:=C) (t:=t) (e:=e) (k:=k) hx hy h0 h1
  rw [Nat.zero_add] at this
  exact this
theorem Bu {α:Type}{k:Nat}{enc:α→List Value}[hc:Cells k enc]{v:Value}{xs:List α}{ob:aj}{F:aj→aj}{i:Nat}{y:α}(hO:OwnSl k enc v xs ob)(hU:Tl ob L F)(hi:xs[i]? =some y){w:World}(hw:St M w0 H0 H L w)(j:Nat)(u:Value)(hu:(enc y)[j]? =some u):
  w.cell? ⟨ogb ob,i * k+j,none⟩=some u:=by
 obtain⟨R,hp1,_⟩:=hU.perm
 have hwR:=hw.perm hp1
 rcases hO with ⟨rfl,rfl,rfl⟩ | ⟨b,cap,cs,rfl,rfl,hcl,htk,hle,hcm⟩
 ·simp at hi
 ·have h2:=nh (k:=k) (fun x _=>hc.len x) i y hi j u hu
  rw [← htk,List.getElem?_take] at h2
  split at h2
  ·show w.cell? ⟨b,_,none⟩=_
   rw [hwR.cell (.here _)];exact h2
  ·cases h2
theorem n6 {α:Type}{t k:Nat}{enc:α→List Value}[hc:Cells k enc]{x:Operand}{v:Value}{xs:List α}{ob:aj}{F:aj→aj}{i:Nat}{y:α}(hx:ev E x=some (.pointer (some ⟨ogb ob,i * k,none⟩)))(hO:OwnSl k enc v xs ob)(hU:Tl ob L F)(hi:xs[i]? =some y)[ht:Ty P t true k]:
  PR P E (St M w0 H0 H L) (.load t x) (.agg (enc y).toArray):=by
 have hk:(enc y).length=k:=hc.len y
 have ht':Ty P t true (enc y).length:=by rw [hk];exact ht
 exact jE hx fun w hw=>el ht' (fun j u hj=>Bu hO hU hi hw j u hj)
theorem bG {α:Type}{t k k' j:Nat}{enc:α→List Value}[hc:Cells k enc]{x:Operand}{v u:Value}{xs:List α}{ob:aj}{F:aj→aj}{i:Nat}{y:α}(hx:ev E x=some (.pointer (some ⟨ogb ob,i * k+j,none⟩)))(hO:OwnSl k enc v xs ob)(hU:Tl ob L F)(hi:xs[i]? =some y)(hj:(enc y)[j]? =some u)[ht:Ty P t false k']:
  PR P E (St M w0 H0 H L) (.load t x) u:=jE hx fun w hw=>gz ht (Bu hO hU hi hw j u hj)
end
end Go.Sx
namespace Go.Sx
open Go
section
variable {P:Program}{n:Nat}{ops:Array Oper}{Q:Exit→Act→World→Prop}{E:Env}{M:List Nat}{w0:World}{H0 H:Hp}{L:aj}{C:World→Prop}
end
end Go.Sx
namespace Go.Sx
open Go
class Firm (G:World→Prop):Prop where
 ext:∀{w w':World},Ext w w'→G w→G w'
section
variable {G:World→Prop}{P:Program}{n:Nat}{ops:Array Oper}{Ri:World→Prop}{Q:Exit→Act→World→Prop}{E:Env}{w0:World}{H0 H:Hp}{L:aj}{C:World→Prop}{rest:List Oper}{dst:Option Nat}{op:Op}{ty:TypeId}{pos:String}{aft:Array Edge}
variable [hF0:Firm G]
omit hF0
theorem FnS.ext {f:FuncId}{args:List Value}{v:Value}(h:∀w,St [] w H H [] w→Calls P f args.toArray w (fun e w'=>e= .returned v∧Ext w w')):FnS P f args H v:=by
 intro w hw
 refine(h w hw).mono ?_
 rintro e w' ⟨rfl,hx⟩
 exact⟨v,H,[],rfl,hx.st hw,rfl,rfl,rfl⟩
end
end Go.Sx

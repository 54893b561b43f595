set_option linter.all false
set_option maxHeartbeats 0
theorem AT{p:Prop}(h:p:=by omega):p:=h
theorem IM{p:Prop}(h:p:=by simp):p:=h
theorem IP{p:Prop}(h:p:=by decide):p:=h
theorem NZ{p:Prop}(h:p:=by dsimp only;omega):p:=h
theorem N0{p:Prop}(h:p:=by simp;omega):p:=h
theorem Od{p:Prop}(h:p:=by rfl):p:=h
theorem Oj{a b:Prop}(A:a)(B:b):a/\b:=⟨A,B⟩
theorem Oo{a b c:Prop}(A:a)(B:b)(C:c):a/\b/\c:=⟨A,B,C⟩
theorem Ot{a b c d:Prop}(A:a)(B:b)(C:c)(D:d):a/\b/\c/\d:=⟨A,B,C,D⟩
theorem Ov{a b c d e:Prop}(A:a)(B:b)(C:c)(D:d)(E:e):a/\b/\c/\d/\e:=⟨A,B,C,D,E⟩
theorem aad{a b c d e f:Prop}(A:a)(B:b)(C:c)(D:d)(E:e)(F:f):a/\b/\c/\d/\e/\f:=⟨A,B,C,D,E,F⟩
theorem aag{a b c d e f g:Prop}(A:a)(B:b)(C:c)(D:d)(E:e)(F:f)(G:g):a/\b/\c/\d/\e/\f/\g:=⟨A,B,C,D,E,F,G⟩
theorem aah{a b c d e f g h:Prop}(A:a)(B:b)(C:c)(D:d)(E:e)(F:f)(G:g)(H:h):a/\b/\c/\d/\e/\f/\g/\h:=⟨A,B,C,D,E,F,G,H⟩
